/- What the functions compute that CategoriesTables reaches, and that their calls refine it (part 4 of 4). -/
import Derived.Test.YtjikdlekkmifhaaGreatW29Ta3
set_option linter.unusedVariables false
set_option linter.unusedSimpArgs false
set_option maxRecDepth 100000
set_option maxHeartbeats 4000000
namespace Go.Sw
open Go.Proofs Tryz
def F_hy (n : Nat) (a1 : Course) (s11 : (List (List UInt8)) × Int) : Option (Ctl ((List (List UInt8)) × Int) (List (List UInt8))) :=
  (bif decide (s11.2 < (a1.Mats.length : Int)) then (idx a1.Mats s11.2).bind fun x15 => (app s11.1 [x15.Name]).bind fun l16 => some (.cont (l16, IntKind.i64.wrap (s11.2 + 1))) else some (.done s11.1))
def F_he (n : Nat) (a1 : Course) (s27 : (List (List UInt8)) × Int) : Option (Ctl ((List (List UInt8)) × Int) (List (List UInt8))) :=
  (bif decide (s27.2 < (a1.Distances.length : Int)) then (idx a1.Distances s27.2).bind fun x31 => (app s27.1 [x31.Name]).bind fun l32 => some (.cont (l32, IntKind.i64.wrap (s27.2 + 1))) else some (.done s27.1))
def F_hw (n : Nat) (a1 : Course) (s43 : (List (List UInt8)) × Int) : Option (Ctl ((List (List UInt8)) × Int) (List (List UInt8))) :=
  (bif decide (s43.2 < (a1.Waves.length : Int)) then (idx a1.Waves s43.2).bind fun x47 => (app s43.1 [x47.Name]).bind fun l48 => some (.cont (l48, IntKind.i64.wrap (s43.2 + 1))) else some (.done s43.1))
def F_hp (n : Nat) (a1 : Course) (s59 : (List (List UInt8)) × Int) : Option (Ctl ((List (List UInt8)) × Int) (List (List UInt8))) :=
  (bif decide (s59.2 < (a1.Offences.length : Int)) then (idx a1.Offences s59.2).bind fun x63 => (app s59.1 [x63.Name]).bind fun l64 => some (.cont (l64, IntKind.i64.wrap (s59.2 + 1))) else some (.done s59.1))
def F_hx (n : Nat) (a1 : Course) (s75 : (List (List UInt8)) × Int) : Option (Ctl ((List (List UInt8)) × Int) (List (List UInt8))) :=
  (bif decide (s75.2 < (a1.Categories.length : Int)) then (idx a1.Categories s75.2).bind fun x79 => (app s75.1 [x79.Name]).bind fun l80 => some (.cont (l80, IntKind.i64.wrap (s75.2 + 1))) else some (.done s75.1))
def F_co (n : Nat) (a1 : Course) : Option Bool :=
  (iter (F_hy n a1) n (([] : List (List UInt8)), 0) : Option (List (List UInt8))).bind fun b8 => (iter (F_he n a1) n (([] : List (List UInt8)), 0) : Option (List (List UInt8))).bind fun b24 => (iter (F_hw n a1) n (([] : List (List UInt8)), 0) : Option (List (List UInt8))).bind fun b40 => (iter (F_hp n a1) n (([] : List (List UInt8)), 0) : Option (List (List UInt8))).bind fun b56 => (iter (F_hx n a1) n (([] : List (List UInt8)), 0) : Option (List (List UInt8))).bind fun b72 => ((F_ae n a1.Name).bind fun r94 => (bif r94 then (F_o n b8).bind fun r96 => (bif r96 then (F_o n b24).bind fun r98 => (bif r98 then (F_o n b40).bind fun r100 => (bif r100 then (F_o n b56).bind fun r102 => (bif r102 then (F_o n b72).bind fun r104 => some r104 else some false) else some false) else some false) else some false) else some false) : Option Bool).bind fun b92 => some b92
theorem k_co (n : Nat) (a1 : Course) (r : Bool) (h : F_co n a1 = some r) :
    C prog 38 [.agg (Course.c a1)] [] (fun a H => a = .bool r ∧ H = []) := by
 refine C.of_body func38 Z Z Z ?_
 refine Rg ?_
 refine vH (OpH.box Z Z Z Z Z) ?_
 refine aV (.ptr 0 0) [.cells 33 (Course.c a1)] Z Z ?_
 refine S Z (Nx (Rg ?_))
 refine vH (OpH.lit (xs := []) (es := List.map encS []) el_105 Z Z Z Z Z trivial Z Z) ?_
 refine aV (.osl 1 0 (([] : List (List UInt8)).length) 1) [_, .row 9 1 (List.map encS ([] : List (List UInt8)))] Z Z ?_
 refine S Z (Nx (TC.seq (Rg (S Z (Nx (Bd h fun b8 h9 h => ?_))))))
 refine TC.cut ([(1, .ptr 0 0), (3, .osl 1 0 b8.length 1)]) ([.cells 33 (Course.c a1), .row 9 1 (List.map encS b8)]) ?_ (fun env H hle => ?_)
 ·
  refine TC.block ?_
  refine TC.loop (E := fun s11 => [(1, .ptr 0 0), (3, .osl 1 0 s11.1.length 1), (4, .int .i64 s11.2)]) (Hp := fun s11 => [.cells 33 (Course.c a1), .row 9 1 (List.map encS s11.1)]) h9 ?_ ?_
  ·
   exact Lr [0, 1]
  intro s11 d12 h13 hb10
  refine TC.seq (Rg (S Z (Fp fa_33_1 Z (Ld isAgg22 Z (LnM runUnderlying22 Z (S Z (Nx (CnS Z h13 (fun hc14 h13 => ?_) (fun hc14 h13 => ?_)))))))))
  ·
   refine ExX (loopX h13 ?_)
   obtain rfl := hb10 _ (Oi h13).symm
   exact bloE (cutN (Lr [0, 1]))
  refine SkN (TC.seq (TC.block (TC.region (S Z (Fp fa_33_1 Z (Ld isAgg22 Z (S Z (Bd h13 fun x15 hx15 h13 => Ix hx15 runUnderlying22 sizeOf107 Z (Fr fa_107_0 Z (Ld isAgg9 Z ?_))))))))))
  refine vH (OpH.lit (xs := [.tmp 27]) (es := List.map encS [x15.Name]) el_105 Z Z Z Z Z ⟨Z, trivial⟩ Z Z) ?_
  refine aV (.osl 2 0 ([x15.Name].length) 1) [_, _, .row 9 1 (List.map encS [x15.Name])] Z Z ?_
  refine Bd h13 fun l16 hl16 h13 => ?_
  refine vH (OpH.appO (e := encS) hl16 el_105 runUnderlying105 (Src.oM (i := 2))) ?_
  refine aV (.osl 3 0 l16.length 1) [_, .dead, _, .row 9 1 (List.map encS l16)] Z Z ?_
  exact S Z (WO.nil (bloN (seqN (TC.region (S Z (S Z (S Z (WO.nil (loopN h13 (Lr [0, 3]))))))))))
 refine seqN (TC.le hle (Rg ?_))
 refine vH (OpH.lit (xs := []) (es := List.map encS []) el_105 Z Z Z Z Z trivial Z Z) ?_
 refine aV (.osl 2 0 (([] : List (List UInt8)).length) 1) [_, _, .row 9 1 (List.map encS ([] : List (List UInt8)))] Z Z ?_
 refine S Z (Nx (TC.seq (Rg (S Z (Nx (Bd h fun b24 h25 h => ?_))))))
 refine TC.cut ([(1, .ptr 0 0), (3, .osl 1 0 b8.length 1), (5, .osl 2 0 b24.length 1)]) ([.cells 33 (Course.c a1), .row 9 1 (List.map encS b8), .row 9 1 (List.map encS b24)]) ?_ (fun env H hle => ?_)
 ·
  refine TC.block ?_
  refine TC.loop (E := fun s27 => [(1, .ptr 0 0), (3, .osl 1 0 b8.length 1), (5, .osl 2 0 s27.1.length 1), (6, .int .i64 s27.2)]) (Hp := fun s27 => [.cells 33 (Course.c a1), .row 9 1 (List.map encS b8), .row 9 1 (List.map encS s27.1)]) h25 ?_ ?_
  ·
   exact Lr [0, 1, 2]
  intro s27 d28 h29 hb26
  refine TC.seq (Rg (S Z (Fp fa_33_3 Z (Ld isAgg24 Z (LnM runUnderlying24 Z (S Z (Nx (CnS Z h29 (fun hc30 h29 => ?_) (fun hc30 h29 => ?_)))))))))
  ·
   refine ExX (loopX h29 ?_)
   obtain rfl := hb26 _ (Oi h29).symm
   exact bloE (cutN (Lr [0, 1, 2]))
  refine SkN (TC.seq (TC.block (TC.region (S Z (Fp fa_33_3 Z (Ld isAgg24 Z (S Z (Bd h29 fun x31 hx31 h29 => Ix hx31 runUnderlying24 sizeOf62 Z (Fr fa_62_0 Z (Ld isAgg9 Z ?_))))))))))
  refine vH (OpH.lit (xs := [.tmp 44]) (es := List.map encS [x31.Name]) el_105 Z Z Z Z Z ⟨Z, trivial⟩ Z Z) ?_
  refine aV (.osl 3 0 ([x31.Name].length) 1) [_, _, _, .row 9 1 (List.map encS [x31.Name])] Z Z ?_
  refine Bd h29 fun l32 hl32 h29 => ?_
  refine vH (OpH.appO (e := encS) hl32 el_105 runUnderlying105 (Src.oM (i := 3))) ?_
  refine aV (.osl 4 0 l32.length 1) [_, _, .dead, _, .row 9 1 (List.map encS l32)] Z Z ?_
  exact S Z (WO.nil (bloN (seqN (TC.region (S Z (S Z (S Z (WO.nil (loopN h29 (Lr [0, 1, 4]))))))))))
 refine seqN (TC.le hle (Rg ?_))
 refine vH (OpH.lit (xs := []) (es := List.map encS []) el_105 Z Z Z Z Z trivial Z Z) ?_
 refine aV (.osl 3 0 (([] : List (List UInt8)).length) 1) [_, _, _, .row 9 1 (List.map encS ([] : List (List UInt8)))] Z Z ?_
 refine S Z (Nx (TC.seq (Rg (S Z (Nx (Bd h fun b40 h41 h => ?_))))))
 refine TC.cut ([(1, .ptr 0 0), (3, .osl 1 0 b8.length 1), (5, .osl 2 0 b24.length 1), (7, .osl 3 0 b40.length 1)]) ([.cells 33 (Course.c a1), .row 9 1 (List.map encS b8), .row 9 1 (List.map encS b24), .row 9 1 (List.map encS b40)]) ?_ (fun env H hle => ?_)
 ·
  refine TC.block ?_
  refine TC.loop (E := fun s43 => [(1, .ptr 0 0), (3, .osl 1 0 b8.length 1), (5, .osl 2 0 b24.length 1), (7, .osl 3 0 s43.1.length 1), (8, .int .i64 s43.2)]) (Hp := fun s43 => [.cells 33 (Course.c a1), .row 9 1 (List.map encS b8), .row 9 1 (List.map encS b24), .row 9 1 (List.map encS s43.1)]) h41 ?_ ?_
  ·
   exact Lr [0, 1, 2, 3]
  intro s43 d44 h45 hb42
  refine TC.seq (Rg (S Z (Fp fa_33_4 Z (Ld isAgg25 Z (LnM runUnderlying25 Z (S Z (Nx (CnS Z h45 (fun hc46 h45 => ?_) (fun hc46 h45 => ?_)))))))))
  ·
   refine ExX (loopX h45 ?_)
   obtain rfl := hb42 _ (Oi h45).symm
   exact bloE (cutN (Lr [0, 1, 2, 3]))
  refine SkN (TC.seq (TC.block (TC.region (S Z (Fp fa_33_4 Z (Ld isAgg25 Z (S Z (Bd h45 fun x47 hx47 h45 => Ix hx47 runUnderlying25 sizeOf109 Z (Fr fa_109_0 Z (Ld isAgg9 Z ?_))))))))))
  refine vH (OpH.lit (xs := [.tmp 61]) (es := List.map encS [x47.Name]) el_105 Z Z Z Z Z ⟨Z, trivial⟩ Z Z) ?_
  refine aV (.osl 4 0 ([x47.Name].length) 1) [_, _, _, _, .row 9 1 (List.map encS [x47.Name])] Z Z ?_
  refine Bd h45 fun l48 hl48 h45 => ?_
  refine vH (OpH.appO (e := encS) hl48 el_105 runUnderlying105 (Src.oM (i := 4))) ?_
  refine aV (.osl 5 0 l48.length 1) [_, _, _, .dead, _, .row 9 1 (List.map encS l48)] Z Z ?_
  exact S Z (WO.nil (bloN (seqN (TC.region (S Z (S Z (S Z (WO.nil (loopN h45 (Lr [0, 1, 2, 5]))))))))))
 refine seqN (TC.le hle (Rg ?_))
 refine vH (OpH.lit (xs := []) (es := List.map encS []) el_105 Z Z Z Z Z trivial Z Z) ?_
 refine aV (.osl 4 0 (([] : List (List UInt8)).length) 1) [_, _, _, _, .row 9 1 (List.map encS ([] : List (List UInt8)))] Z Z ?_
 refine S Z (Nx (TC.seq (Rg (S Z (Nx (Bd h fun b56 h57 h => ?_))))))
 refine TC.cut ([(1, .ptr 0 0), (3, .osl 1 0 b8.length 1), (5, .osl 2 0 b24.length 1), (7, .osl 3 0 b40.length 1), (9, .osl 4 0 b56.length 1)]) ([.cells 33 (Course.c a1), .row 9 1 (List.map encS b8), .row 9 1 (List.map encS b24), .row 9 1 (List.map encS b40), .row 9 1 (List.map encS b56)]) ?_ (fun env H hle => ?_)
 ·
  refine TC.block ?_
  refine TC.loop (E := fun s59 => [(1, .ptr 0 0), (3, .osl 1 0 b8.length 1), (5, .osl 2 0 b24.length 1), (7, .osl 3 0 b40.length 1), (9, .osl 4 0 s59.1.length 1), (10, .int .i64 s59.2)]) (Hp := fun s59 => [.cells 33 (Course.c a1), .row 9 1 (List.map encS b8), .row 9 1 (List.map encS b24), .row 9 1 (List.map encS b40), .row 9 1 (List.map encS s59.1)]) h57 ?_ ?_
  ·
   exact Lr [0, 1, 2, 3, 4]
  intro s59 d60 h61 hb58
  refine TC.seq (Rg (S Z (Fp fa_33_5 Z (Ld isAgg26 Z (LnM runUnderlying26 Z (S Z (Nx (CnS Z h61 (fun hc62 h61 => ?_) (fun hc62 h61 => ?_)))))))))
  ·
   refine ExX (loopX h61 ?_)
   obtain rfl := hb58 _ (Oi h61).symm
   exact bloE (cutN (Lr [0, 1, 2, 3, 4]))
  refine SkN (TC.seq (TC.block (TC.region (S Z (Fp fa_33_5 Z (Ld isAgg26 Z (S Z (Bd h61 fun x63 hx63 h61 => Ix hx63 runUnderlying26 sizeOf111 Z (Fr fa_111_0 Z (Ld isAgg9 Z ?_))))))))))
  refine vH (OpH.lit (xs := [.tmp 78]) (es := List.map encS [x63.Name]) el_105 Z Z Z Z Z ⟨Z, trivial⟩ Z Z) ?_
  refine aV (.osl 5 0 ([x63.Name].length) 1) [_, _, _, _, _, .row 9 1 (List.map encS [x63.Name])] Z Z ?_
  refine Bd h61 fun l64 hl64 h61 => ?_
  refine vH (OpH.appO (e := encS) hl64 el_105 runUnderlying105 (Src.oM (i := 5))) ?_
  refine aV (.osl 6 0 l64.length 1) [_, _, _, _, .dead, _, .row 9 1 (List.map encS l64)] Z Z ?_
  exact S Z (WO.nil (bloN (seqN (TC.region (S Z (S Z (S Z (WO.nil (loopN h61 (Lr [0, 1, 2, 3, 6]))))))))))
 refine seqN (TC.le hle (Rg ?_))
 refine vH (OpH.lit (xs := []) (es := List.map encS []) el_105 Z Z Z Z Z trivial Z Z) ?_
 refine aV (.osl 5 0 (([] : List (List UInt8)).length) 1) [_, _, _, _, _, .row 9 1 (List.map encS ([] : List (List UInt8)))] Z Z ?_
 refine S Z (Nx (TC.seq (Rg (S Z (Nx (Bd h fun b72 h73 h => ?_))))))
 refine TC.cut ([(1, .ptr 0 0), (3, .osl 1 0 b8.length 1), (5, .osl 2 0 b24.length 1), (7, .osl 3 0 b40.length 1), (9, .osl 4 0 b56.length 1), (11, .osl 5 0 b72.length 1)]) ([.cells 33 (Course.c a1), .row 9 1 (List.map encS b8), .row 9 1 (List.map encS b24), .row 9 1 (List.map encS b40), .row 9 1 (List.map encS b56), .row 9 1 (List.map encS b72)]) ?_ (fun env H hle => ?_)
 ·
  refine TC.block ?_
  refine TC.loop (E := fun s75 => [(1, .ptr 0 0), (3, .osl 1 0 b8.length 1), (5, .osl 2 0 b24.length 1), (7, .osl 3 0 b40.length 1), (9, .osl 4 0 b56.length 1), (11, .osl 5 0 s75.1.length 1), (12, .int .i64 s75.2)]) (Hp := fun s75 => [.cells 33 (Course.c a1), .row 9 1 (List.map encS b8), .row 9 1 (List.map encS b24), .row 9 1 (List.map encS b40), .row 9 1 (List.map encS b56), .row 9 1 (List.map encS s75.1)]) h73 ?_ ?_
  ·
   exact Lr [0, 1, 2, 3, 4, 5]
  intro s75 d76 h77 hb74
  refine TC.seq (Rg (S Z (Fp fa_33_6 Z (Ld isAgg27 Z (LnM runUnderlying27 Z (S Z (Nx (CnS Z h77 (fun hc78 h77 => ?_) (fun hc78 h77 => ?_)))))))))
  ·
   refine ExX (loopX h77 ?_)
   obtain rfl := hb74 _ (Oi h77).symm
   exact bloE (cutN (Lr [0, 1, 2, 3, 4, 5]))
  refine SkN (TC.seq (TC.block (TC.region (S Z (Fp fa_33_6 Z (Ld isAgg27 Z (S Z (Bd h77 fun x79 hx79 h77 => Ix hx79 runUnderlying27 sizeOf52 Z (Fr fa_52_0 Z (Ld isAgg9 Z ?_))))))))))
  refine vH (OpH.lit (xs := [.tmp 95]) (es := List.map encS [x79.Name]) el_105 Z Z Z Z Z ⟨Z, trivial⟩ Z Z) ?_
  refine aV (.osl 6 0 ([x79.Name].length) 1) [_, _, _, _, _, _, .row 9 1 (List.map encS [x79.Name])] Z Z ?_
  refine Bd h77 fun l80 hl80 h77 => ?_
  refine vH (OpH.appO (e := encS) hl80 el_105 runUnderlying105 (Src.oM (i := 6))) ?_
  refine aV (.osl 7 0 l80.length 1) [_, _, _, _, _, .dead, _, .row 9 1 (List.map encS l80)] Z Z ?_
  exact S Z (WO.nil (bloN (seqN (TC.region (S Z (S Z (S Z (WO.nil (loopN h77 (Lr [0, 1, 2, 3, 4, 7]))))))))))
 refine seqN (TC.le hle (TC.seq (Bd h fun b92 h93 h => ?_)))
 refine TC.cut ([(2, .bool b92)]) ([]) ?_ (fun env H hle => ?_)
 ·
  refine TC.region (Fp fa_33_0 Z (Ld isAgg9 Z (Bd h93 fun r94 hr94 h93 => ?_)))
  refine WO.callD [] (OpC.fn call62 Z Z Z) (k_ae _ _ _ hr94) ?_
  rintro _ _ ⟨rfl, rfl⟩
  refine aV (.bool r94) [_, _, _, _, _, _] Z Z ?_
  refine S Z (If h93 (fun hg95 h93 => ?_) (fun hg95 h93 => ?_))
  ·
   refine Sg (gT hg95) Z (Bd h93 fun r96 hr96 h93 => ?_)
   refine WO.callB (OpC.fn call63 rfl rfl rfl) (LookL.cons rfl (.inr ⟨_, _, _, _, _, rfl, rfl, List.length_map .., rfl⟩) LookL.nil) (k_o _ _ _ hr96) (by rintro _ _ ⟨rfl, rfl⟩; rfl) ?_ (gT hg95)
   rintro _ _ ⟨rfl, rfl⟩
   refine aV (.bool r96) [_, _, _, _, _, _] Z Z ?_
   refine Pk hg95 Z (S Z (If h93 (fun hg97 h93 => ?_) (fun hg97 h93 => ?_)))
   ·
    refine Sg (gT hg97) Z (Bd h93 fun r98 hr98 h93 => ?_)
    refine WO.callB (OpC.fn call63 rfl rfl rfl) (LookL.cons rfl (.inr ⟨_, _, _, _, _, rfl, rfl, List.length_map .., rfl⟩) LookL.nil) (k_o _ _ _ hr98) (by rintro _ _ ⟨rfl, rfl⟩; rfl) ?_ (gT hg97)
    rintro _ _ ⟨rfl, rfl⟩
    refine aV (.bool r98) [_, _, _, _, _, _] Z Z ?_
    refine Pk hg97 Z (S Z (If h93 (fun hg99 h93 => ?_) (fun hg99 h93 => ?_)))
    ·
     refine Sg (gT hg99) Z (Bd h93 fun r100 hr100 h93 => ?_)
     refine WO.callB (OpC.fn call63 rfl rfl rfl) (LookL.cons rfl (.inr ⟨_, _, _, _, _, rfl, rfl, List.length_map .., rfl⟩) LookL.nil) (k_o _ _ _ hr100) (by rintro _ _ ⟨rfl, rfl⟩; rfl) ?_ (gT hg99)
     rintro _ _ ⟨rfl, rfl⟩
     refine aV (.bool r100) [_, _, _, _, _, _] Z Z ?_
     refine Pk hg99 Z (S Z (If h93 (fun hg101 h93 => ?_) (fun hg101 h93 => ?_)))
     ·
      refine Sg (gT hg101) Z (Bd h93 fun r102 hr102 h93 => ?_)
      refine WO.callB (OpC.fn call63 rfl rfl rfl) (LookL.cons rfl (.inr ⟨_, _, _, _, _, rfl, rfl, List.length_map .., rfl⟩) LookL.nil) (k_o _ _ _ hr102) (by rintro _ _ ⟨rfl, rfl⟩; rfl) ?_ (gT hg101)
      rintro _ _ ⟨rfl, rfl⟩
      refine aV (.bool r102) [_, _, _, _, _, _] Z Z ?_
      refine Pk hg101 Z (S Z (If h93 (fun hg103 h93 => ?_) (fun hg103 h93 => ?_)))
      ·
       refine Sg (gT hg103) Z (Bd h93 fun r104 hr104 h93 => ?_)
       refine WO.callB (OpC.fn call63 rfl rfl rfl) (LookL.cons rfl (.inr ⟨_, _, _, _, _, rfl, rfl, List.length_map .., rfl⟩) LookL.nil) (k_o _ _ _ hr104) (by rintro _ _ ⟨rfl, rfl⟩; rfl) ?_ (gT hg103)
       rintro _ _ ⟨rfl, rfl⟩
       refine aV (.bool r104) [_, _, _, _, _, _] Z Z ?_
       refine Pk hg103 Z (S Z (WO.nil ?_))
       obtain rfl := Oi h93
       exact cutN (Lr [])
      ·
       refine KF hg103 Z (KF hg103 Z (Pk hg103 Z (S Z (WO.nil ?_))))
       obtain rfl := Oi h93
       exact cutN (Lr [])
     ·
      refine KF hg101 Z (KF hg101 Z (Pk hg101 Z (S Z (KF Z Z (KF Z Z (S Z (S Z (WO.nil ?_))))))))
      obtain rfl := Oi h93
      exact cutN (Lr [])
    ·
     refine KF hg99 Z (KF hg99 Z (Pk hg99 Z (S Z (KF Z Z (KF Z Z (S Z (S Z (KF Z Z (KF Z Z (S Z (S Z (WO.nil ?_))))))))))))
     obtain rfl := Oi h93
     exact cutN (Lr [])
   ·
    refine KF hg97 Z (KF hg97 Z (Pk hg97 Z (S Z (KF Z Z (KF Z Z (S Z (S Z (KF Z Z (KF Z Z (S Z (S Z (KF Z Z (KF Z Z (S Z (S Z (WO.nil ?_))))))))))))))))
    obtain rfl := Oi h93
    exact cutN (Lr [])
  ·
   refine KF hg95 Z (KF hg95 Z (Pk hg95 Z (S Z (KF Z Z (KF Z Z (S Z (S Z (KF Z Z (KF Z Z (S Z (S Z (KF Z Z (KF Z Z (S Z (S Z (KF Z Z (KF Z Z (S Z (S Z (WO.nil ?_))))))))))))))))))))
   obtain rfl := Oi h93
   exact cutN (Lr [])
 refine seqN (TC.le hle (TC.ret ?_))
 obtain rfl := Oi h
 refine ⟨[(2, _)], _, _, ?_, ResOK.one Z Z, Z, Z⟩
 exact Lr []
def F_b (n : Nat) (a1 : Int) (a2 : Int) (a3 : Int) : Option Bool :=
  ((bif decide (a2 ≤ a1) then some (decide (a1 ≤ a3)) else some false) : Option Bool).bind fun b2 => some b2
theorem k_b (n : Nat) (a1 : Int) (a2 : Int) (a3 : Int) (r : Bool) (h : F_b n a1 a2 a3 = some r) :
    C prog 64 [.int .i64 a1, .int .i64 a2, .int .i64 a3] [] (fun a H => a = .bool r ∧ H = []) := by
 refine C.of_body func64 Z Z Z ?_
 refine Rg (S Z (Nx (TC.seq (Bd h fun b2 h3 h => ?_))))
 refine TC.cut ([(6, .bool b2)]) ([]) ?_ (fun env H hle => ?_)
 ·
  refine TC.region (S Z (S Z (S Z (S Z (If h3 (fun hg4 h3 => ?_) (fun hg4 h3 => ?_))))))
  ·
   refine Sg (gT hg4) Z (Sg (gT hg4) Z (Sg (gT hg4) Z (Pk hg4 Z (S Z (WO.nil ?_)))))
   obtain rfl := Oi h3
   exact cutN (Lr [])
  ·
   refine KF hg4 Z (KF hg4 Z (KF hg4 Z (Pk hg4 Z (S Z (WO.nil ?_)))))
   obtain rfl := Oi h3
   exact cutN (Lr [])
 refine seqN (TC.le hle (TC.ret ?_))
 obtain rfl := Oi h
 refine ⟨[(6, _)], _, _, ?_, ResOK.one Z Z, Z, Z⟩
 exact Lr []
def F_g (n : Nat) (a1 : Course) (a2 : Int) : Option Bool :=
  (F_b n a2 0 (IntKind.i64.wrap ((a1.Mats.length : Int) - 1))).bind fun r1 => some r1
theorem k_g (n : Nat) (a1 : Course) (a2 : Int) (r : Bool) (h : F_g n a1 a2 = some r) :
    C prog 65 [.agg (Course.c a1), .int .i64 a2] [] (fun a H => a = .bool r ∧ H = []) := by
 refine C.of_body func65 Z Z Z ?_
 refine Rg ?_
 refine vH (OpH.box Z Z Z Z Z) ?_
 refine aV (.ptr 0 0) [.cells 33 (Course.c a1)] Z Z ?_
 refine S Z (Nx (Rg (S Z (Fp fa_33_1 Z (Ld isAgg22 Z (LnM runUnderlying22 Z (S Z (Bd h fun r1 hr1 h => ?_))))))))
 refine WO.callD [] (OpC.fn call64 Z Z Z) (k_b _ _ _ _ _ hr1) ?_
 rintro _ _ ⟨rfl, rfl⟩
 refine aV (.bool r1) [_] Z Z ?_
 refine S Z (Nx (TC.ret ?_))
 obtain rfl := Oi h
 refine ⟨[(4, _)], _, _, ?_, ResOK.one Z Z, Z, Z⟩
 exact Lr []
def F_fi (n : Nat) (a1 : Course) (a2 : List Part) (rec160 : Course → (List Part) → Option Bool) (s59 : Int) : Option (Ctl Int (Ctl Unit Bool)) :=
  (bif decide (s59 < (a2.length : Int)) then (idx a2 s59).bind fun x63 => ((bif (x63.Laps == 0) then (F_g n a1 x63.Mat).bind fun r70 => (bif r70 then some ((x63.Parts.length : Int) == 0) else some false) else some false) : Option Bool).bind fun b67 => ((F_b n x63.Laps 1 64).bind fun r79 => (bif r79 then (bif (x63.Mat == 0) then (bif decide (0 < (x63.Parts.length : Int)) then (rec160 a1 x63.Parts).bind fun r83 => some r83 else some false) else some false) else some false) : Option Bool).bind fun b77 => ((bif (!b67) then some (!b77) else some false) : Option Bool).bind fun b85 => (bif b85 then some (.done (.done false)) else some (.cont (IntKind.i64.wrap (s59 + 1)))) else some (.done (.cont ())))
def B_j (rec160 : Course → (List Part) → Option Bool) (n : Nat) (a1 : Course) (a2 : List Part) : Option Bool :=
  (iter (F_fi n a1 a2 rec160) n 0 : Option (Ctl Unit Bool)).bind fun b56 => match b56 with | .cont sb56 => (some true) | .done sb56 => some sb56
theorem okB_stopwatchref07_partly (rec160 : Course → (List Part) → Option Bool) (hrec160 : ∀ (a1 : Course) (a2 : List Part) (r : Bool), rec160 a1 a2 = some r → C prog 136 [.agg (Course.c a1), .rsl 3 (List.map Part.enc a2)] [] (fun a H => a = .bool r ∧ H = [])) (n : Nat) (a1 : Course) (a2 : List Part) (r : Bool) (h : B_j rec160 n a1 a2 = some r) :
    C prog 136 [.agg (Course.c a1), .rsl 3 (List.map Part.enc a2)] [] (fun a H => a = .bool r ∧ H = []) := by
 refine C.of_body func136 Z Z Z ?_
 refine Rg ?_
 refine vH (OpH.box Z Z Z Z Z) ?_
 refine aV (.ptr 0 0) [.cells 33 (Course.c a1)] Z Z ?_
 refine S Z (Nx (TC.seq (Rg (S Z (Nx (Bd h fun b56 h57 h => ?_))))))
 refine TC.cutE (b := b56) (fun sb56 => []) (fun sb56 => []) ?_ (fun sb56 env H hbe hle => ?_)
 ·
  refine TC.block ?_
  refine TC.loop (E := fun s59 => [(1, .rsl 3 (List.map Part.enc a2)), (2, .ptr 0 0), (5, .int .i64 s59)]) (Hp := fun s59 => [.cells 33 (Course.c a1)]) h57 ?_ ?_
  ·
   exact Lr [0]
  intro s59 d60 h61 hb58
  refine TC.seq (Rg (S Z (S Z (LnM runUnderlying59 Z (S Z (Nx (CnS Z h61 (fun hc62 h61 => ?_) (fun hc62 h61 => ?_))))))))
  ·
   refine ExX (loopX h61 ?_)
   obtain rfl := hb58 _ (Oi h61).symm
   exact bloE (cutEN Z (Lr []))
  refine SkN (TC.seq (TC.block (Rg (S Z (S Z (Bd h61 fun x63 hx63 h61 => ?_))))))
  refine vX (.rp [.int .i64 x63.Mat, .int .i64 x63.Laps, .rsl 3 (List.map Part.enc x63.Parts)]) (OpV.ixME (e := Part.enc) hx63 (Part.enc_eq x63) runUnderlying59 sizeOf85) ?_
  refine vX (.agg (Part.c x63)) (OpV.loadA Z isAgg85 sizeOf85 Z Pts.rp Z Z) ?_
  refine vH (OpH.allocZ (v := (.agg [.int .i64 0, .int .i64 0, .rsl 3 (List.map Part.enc [])])) zeroValue85 (ZR.agg (ZL.cons ZR.int (ZL.cons ZR.int (ZL.cons ZR.rsl ZL.nil))))) ?_
  refine aV (.ptr 1 0) [_, .cells 85 [.int .i64 0, .int .i64 0, .rsl 3 (List.map Part.enc [])]] Z Z ?_
  refine vU (OpU.store Z Z Z sizeOf85 Z Z Z Z Z Z Z) ?_
  refine WO.atH (H := [_, .cells 85 (Part.c x63)]) Z ?_
  refine Nx (TC.seq (Bd h61 fun b67 h68 h61 => ?_))
  refine TC.cut ([(1, .rsl 3 (List.map Part.enc a2)), (2, .ptr 0 0), (5, .int .i64 s59), (6, .ptr 1 0), (7, .bool b67)]) ([.cells 33 (Course.c a1), .cells 85 (Part.c x63)]) ?_ (fun env H hle => ?_)
  ·
   refine TC.region (Fp fa_85_1 Z (Ld isAgg3 Z (S Z (S Z (If h68 (fun hg69 h68 => ?_) (fun hg69 h68 => ?_))))))
   ·
    refine vX (.agg (Course.c a1)) (OpV.loadA Z isAgg33 sizeOf33 Z (Pts.cells Z Z) Z Z) ?_ (gT hg69)
    refine Fpg (gT hg69) fa_85_0 Z (Ldg (gT hg69) isAgg3 Z (Bd h68 fun r70 hr70 h68 => ?_))
    refine WO.callD [] (OpC.fn call65 Z Z Z) (k_g _ _ _ _ hr70) ?_ (hg := (gT hg69))
    rintro _ _ ⟨rfl, rfl⟩
    refine aV (.bool r70) [_, _] Z Z ?_
    refine Pk hg69 Z (S Z (If h68 (fun hg71 h68 => ?_) (fun hg71 h68 => ?_)))
    ·
     refine Fpg (gT hg71) fa_85_2 Z (Ldg (gT hg71) isAgg59 Z ?_)
     refine vX (.int .i64 (x63.Parts.length : Int)) (OpV.lenM (e := Part.enc) (l := x63.Parts) runUnderlying59) ?_ (gT hg71)
     refine Sg (gT hg71) Z (Pk hg71 Z (S Z (WO.nil ?_)))
     obtain rfl := Oi h68
     exact cutN (Lr [0, 1])
    ·
     refine KF hg71 Z (KF hg71 Z (KF hg71 Z (KF hg71 Z (Pk hg71 Z (S Z (WO.nil ?_))))))
     obtain rfl := Oi h68
     exact cutN (Lr [0, 1])
   ·
    refine KF hg69 Z (KF hg69 Z (KF hg69 Z (KF hg69 Z (Pk hg69 Z (S Z (KF Z Z (KF Z Z (KF Z Z (KF Z Z (S Z (S Z (WO.nil ?_))))))))))))
    obtain rfl := Oi h68
    exact cutN (Lr [0, 1])
  refine seqN (TC.le hle (TC.seq (Bd h61 fun b77 h78 h61 => ?_)))
  refine TC.cut ([(1, .rsl 3 (List.map Part.enc a2)), (2, .ptr 0 0), (5, .int .i64 s59), (7, .bool b67), (8, .bool b77)]) ([.cells 33 (Course.c a1)]) ?_ (fun env H hle => ?_)
  ·
   refine TC.region (Fp fa_85_1 Z (Ld isAgg3 Z (Bd h78 fun r79 hr79 h78 => ?_)))
   refine WO.callD [] (OpC.fn call64 Z Z Z) (k_b _ _ _ _ _ hr79) ?_
   rintro _ _ ⟨rfl, rfl⟩
   refine aV (.bool r79) [_, _] Z Z ?_
   refine S Z (If h78 (fun hg80 h78 => ?_) (fun hg80 h78 => ?_))
   ·
    refine Fpg (gT hg80) fa_85_0 Z (Ldg (gT hg80) isAgg3 Z (Sg (gT hg80) Z (Pk hg80 Z (S Z (If h78 (fun hg81 h78 => ?_) (fun hg81 h78 => ?_))))))
    ·
     refine Fpg (gT hg81) fa_85_2 Z (Ldg (gT hg81) isAgg59 Z ?_)
     refine vX (.int .i64 (x63.Parts.length : Int)) (OpV.lenM (e := Part.enc) (l := x63.Parts) runUnderlying59) ?_ (gT hg81)
     refine Sg (gT hg81) Z (Pk hg81 Z (S Z (If h78 (fun hg82 h78 => ?_) (fun hg82 h78 => ?_))))
     ·
      refine vX (.agg (Course.c a1)) (OpV.loadA Z isAgg33 sizeOf33 Z (Pts.cells Z Z) Z Z) ?_ (gT hg82)
      refine Fpg (gT hg82) fa_85_2 Z (Ldg (gT hg82) isAgg59 Z (Bd h78 fun r83 hr83 h78 => ?_))
      refine WO.callD [] (OpC.fn call136 Z Z Z) (hrec160 _ _ _ hr83) ?_ (hg := (gT hg82))
      rintro _ _ ⟨rfl, rfl⟩
      refine aV (.bool r83) [_, _] Z Z ?_
      refine Pk hg82 Z (S Z (WO.nil ?_))
      obtain rfl := Oi h78
      exact cutN (Lr [0])
     ·
      refine KF hg82 Z (KF hg82 Z (KF hg82 Z (KF hg82 Z (Pk hg82 Z (S Z (WO.nil ?_))))))
      obtain rfl := Oi h78
      exact cutN (Lr [0])
    ·
     refine KF hg81 Z (KF hg81 Z (KF hg81 Z (KF hg81 Z (Pk hg81 Z (S Z (KF Z Z (KF Z Z (KF Z Z (KF Z Z (S Z (S Z (WO.nil ?_))))))))))))
     obtain rfl := Oi h78
     exact cutN (Lr [0])
   ·
    refine KF hg80 Z (KF hg80 Z (KF hg80 Z (Pk hg80 Z (S Z (KF Z Z (KF Z Z (KF Z Z (KF Z Z (S Z (S Z (KF Z Z (KF Z Z (KF Z Z (KF Z Z (S Z (S Z (WO.nil ?_)))))))))))))))))
    obtain rfl := Oi h78
    exact cutN (Lr [0])
  refine seqN (TC.le hle (TC.seq (Bd h61 fun b85 h86 h61 => ?_)))
  refine TC.cut ([(1, .rsl 3 (List.map Part.enc a2)), (2, .ptr 0 0), (5, .int .i64 s59), (59, .bool b85)]) ([.cells 33 (Course.c a1)]) ?_ (fun env H hle => ?_)
  ·
   refine TC.region (S Z (S Z (S Z (If h86 (fun hg87 h86 => ?_) (fun hg87 h86 => ?_)))))
   ·
    refine Sg (gT hg87) Z (Sg (gT hg87) Z (Pk hg87 Z (WO.nil ?_)))
    obtain rfl := Oi h86
    exact cutN (Lr [0])
   ·
    refine KF hg87 Z (KF hg87 Z (Pk hg87 Z (WO.nil ?_)))
    obtain rfl := Oi h86
    exact cutN (Lr [0])
  refine seqN (TC.le hle (Cn Z h61 (fun hc88 h61 => ?_) (fun hc88 h61 => ?_)))
  ·
   refine Rg (S Z (Nx (TC.ret (bloR (seqR (loopR h61 ?_))))))
   obtain rfl := hb58 _ (Oi h61).symm
   refine bloR (cutER (seqR ?_))
   obtain rfl := Oi h
   refine ⟨[(4, _)], _, _, ?_, ResOK.one Z Z, Z, Z⟩
   exact Lr []
  exact TC.skip (bloN (seqN (TC.region (S Z (S Z (S Z (WO.nil (loopN h61 (Lr [0])))))))))
 subst hbe
 refine seqN (TC.le hle (Rg (S Z (Nx (TC.ret ?_)))))
 obtain rfl := Oi h
 refine ⟨[(4, _)], _, _, ?_, ResOK.one Z Z, Z, Z⟩
 exact Lr []
def F_j : Nat → Course → (List Part) → Option Bool
  | 0 => fun _ _ => none
  | n + 1 => B_j (F_j n) n
theorem k_j (n : Nat) : ∀ (a1 : Course) (a2 : List Part) (r : Bool), F_j n a1 a2 = some r → C prog 136 [.agg (Course.c a1), .rsl 3 (List.map Part.enc a2)] [] (fun a H => a = .bool r ∧ H = []) := by
  induction n with
  | zero => intro a1 a2 r h; cases h
  | succ n ih => intro a1 a2 r h; exact okB_stopwatchref07_partly _ ih n a1 a2 r h
def F_fw (n : Nat) (a1 : Course) (a2 : Distance) (s31 : Int) : Option (Ctl Int (Ctl Unit Bool)) :=
  (bif decide (s31 < (a2.Cutoffs.length : Int)) then (idx a2.Cutoffs s31).bind fun x35 => ((F_g n a1 x35.Mat).bind fun r42 => (bif (!r42) then some true else (bif decide (x35.Lap < 1) then some true else (F_b n x35.Limit 0 1099511627776).bind fun r45 => some (!r45))) : Option Bool).bind fun b40 => (bif b40 then some (.done (.done false)) else some (.cont (IntKind.i64.wrap (s31 + 1)))) else some (.done (.cont ())))
def F_ct (n : Nat) (a1 : Course) (a2 : Distance) : Option Bool :=
  (iter (F_fw n a1 a2) n 0 : Option (Ctl Unit Bool)).bind fun b28 => match b28 with | .cont sb28 => (((F_b n a2.Timing 1 3).bind fun r55 => (bif r55 then (F_j n a1 a2.Route).bind fun r57 => (bif r57 then (bif (a2.Extra == (-1)) then some true else (F_g n a1 a2.Extra).bind fun r60 => some r60) else some false) else some false) : Option Bool).bind fun b53 => some b53) | .done sb28 => some sb28
theorem k_ct (n : Nat) (a1 : Course) (a2 : Distance) (r : Bool) (h : F_ct n a1 a2 = some r) :
    C prog 66 [.agg (Course.c a1), .agg (Distance.c a2)] [] (fun a H => a = .bool r ∧ H = []) := by
 refine C.of_body func66 Z Z Z ?_
 refine Rg ?_
 refine vH (OpH.box Z Z Z Z Z) ?_
 refine aV (.ptr 0 0) [.cells 33 (Course.c a1)] Z Z ?_
 refine vH (OpH.box Z Z Z Z Z) ?_
 refine aV (.ptr 1 0) [_, .cells 62 (Distance.c a2)] Z Z ?_
 refine S Z (Nx (TC.seq (Rg (S Z (Nx (Bd h fun b28 h29 h => ?_))))))
 refine TC.cutE (b := b28) (fun sb28 => [(2, .ptr 0 0), (3, .ptr 1 0)]) (fun sb28 => [.cells 33 (Course.c a1), .cells 62 (Distance.c a2)]) ?_ (fun sb28 env H hbe hle => ?_)
 ·
  refine TC.block ?_
  refine TC.loop (E := fun s31 => [(2, .ptr 0 0), (3, .ptr 1 0), (5, .int .i64 s31)]) (Hp := fun s31 => [.cells 33 (Course.c a1), .cells 62 (Distance.c a2)]) h29 ?_ ?_
  ·
   exact Lr [0, 1]
  intro s31 d32 h33 hb30
  refine TC.seq (Rg (S Z (Fp fa_62_3 Z (Ld isAgg60 Z (LnM runUnderlying60 Z (S Z (Nx (CnS Z h33 (fun hc34 h33 => ?_) (fun hc34 h33 => ?_)))))))))
  ·
   refine ExX (loopX h33 ?_)
   obtain rfl := hb30 _ (Oi h33).symm
   exact bloE (cutEN Z (Lr [0, 1]))
  refine SkN (TC.seq (TC.block (Rg (Fp fa_62_3 Z (Ld isAgg60 Z (S Z (Bd h33 fun x35 hx35 h33 => Ix hx35 runUnderlying60 sizeOf122 Z ?_)))))))
  refine vX (.agg (Cutoff.c x35)) (OpV.loadA Z isAgg122 sizeOf122 Z Pts.rp Z Z) ?_
  refine vH (OpH.allocZ (v := (.agg [.int .i64 0, .int .i64 0, .int .i64 0])) zeroValue122 (ZR.agg (ZL.cons ZR.int (ZL.cons ZR.int (ZL.cons ZR.int ZL.nil))))) ?_
  refine aV (.ptr 2 0) [_, _, .cells 122 [.int .i64 0, .int .i64 0, .int .i64 0]] Z Z ?_
  refine vU (OpU.store Z Z Z sizeOf122 Z Z Z Z Z Z Z) ?_
  refine WO.atH (H := [_, _, .cells 122 (Cutoff.c x35)]) Z ?_
  refine Nx (TC.seq (Bd h33 fun b40 h41 h33 => ?_))
  refine TC.cut ([(2, .ptr 0 0), (3, .ptr 1 0), (5, .int .i64 s31), (34, .bool b40)]) ([.cells 33 (Course.c a1), .cells 62 (Distance.c a2)]) ?_ (fun env H hle => ?_)
  ·
   refine TC.region ?_
   refine vX (.agg (Course.c a1)) (OpV.loadA Z isAgg33 sizeOf33 Z (Pts.cells Z Z) Z Z) ?_
   refine Fp fa_122_0 Z (Ld isAgg3 Z (Bd h41 fun r42 hr42 h41 => ?_))
   refine WO.callD [] (OpC.fn call65 Z Z Z) (k_g _ _ _ _ hr42) ?_
   rintro _ _ ⟨rfl, rfl⟩
   refine aV (.bool r42) [_, _, _] Z Z ?_
   refine S Z (S Z (If h41 (fun hg43 h41 => ?_) (fun hg43 h41 => ?_)))
   ·
    refine KF hg43 Z (KF hg43 Z (KF hg43 Z (Pk hg43 Z (S Z (KF Z Z (KF Z Z (KF Z Z (KF Z Z (S Z (WO.nil ?_))))))))))
    obtain rfl := Oi h41
    exact cutN (Lr [0, 1])
   ·
    refine Fpg (gT hg43) fa_122_1 Z (Ldg (gT hg43) isAgg3 Z (Sg (gT hg43) Z (Pk hg43 Z (S Z (If h41 (fun hg44 h41 => ?_) (fun hg44 h41 => ?_))))))
    ·
     refine KF hg44 Z (KF hg44 Z (KF hg44 Z (KF hg44 Z (Pk hg44 Z (WO.nil ?_)))))
     obtain rfl := Oi h41
     exact cutN (Lr [0, 1])
    ·
     refine Fpg (gT hg44) fa_122_2 Z (Ldg (gT hg44) isAgg3 Z (Bd h41 fun r45 hr45 h41 => ?_))
     refine WO.callD [] (OpC.fn call64 Z Z Z) (k_b _ _ _ _ _ hr45) ?_ (hg := (gT hg44))
     rintro _ _ ⟨rfl, rfl⟩
     refine aV (.bool r45) [_, _, _] Z Z ?_
     refine Sg (gT hg44) Z (Pk hg44 Z (WO.nil ?_))
     obtain rfl := Oi h41
     exact cutN (Lr [0, 1])
  refine seqN (TC.le hle (Cn Z h33 (fun hc46 h33 => ?_) (fun hc46 h33 => ?_)))
  ·
   refine Rg (S Z (Nx (TC.ret (bloR (seqR (loopR h33 ?_))))))
   obtain rfl := hb30 _ (Oi h33).symm
   refine bloR (cutER (seqR ?_))
   obtain rfl := Oi h
   refine ⟨[(4, _)], _, _, ?_, ResOK.one Z Z, Z, Z⟩
   exact Lr []
  exact TC.skip (bloN (seqN (TC.region (S Z (S Z (S Z (WO.nil (loopN h33 (Lr [0, 1])))))))))
 subst hbe
 refine seqN (TC.le hle (TC.seq (Bd h fun b53 h54 h => ?_)))
 refine TC.cut ([(4, .bool b53)]) ([]) ?_ (fun env H hle => ?_)
 ·
  refine TC.region (Fp fa_62_2 Z (Ld isAgg3 Z (Bd h54 fun r55 hr55 h54 => ?_)))
  refine WO.callD [] (OpC.fn call64 Z Z Z) (k_b _ _ _ _ _ hr55) ?_
  rintro _ _ ⟨rfl, rfl⟩
  refine aV (.bool r55) [_, _] Z Z ?_
  refine S Z (If h54 (fun hg56 h54 => ?_) (fun hg56 h54 => ?_))
  ·
   refine vX (.agg (Course.c a1)) (OpV.loadA Z isAgg33 sizeOf33 Z (Pts.cells Z Z) Z Z) ?_ (gT hg56)
   refine Fpg (gT hg56) fa_62_1 Z (Ldg (gT hg56) isAgg59 Z (Bd h54 fun r57 hr57 h54 => ?_))
   refine WO.callD [] (OpC.fn call136 Z Z Z) (k_j _ _ _ _ hr57) ?_ (hg := (gT hg56))
   rintro _ _ ⟨rfl, rfl⟩
   refine aV (.bool r57) [_, _] Z Z ?_
   refine Pk hg56 Z (S Z (If h54 (fun hg58 h54 => ?_) (fun hg58 h54 => ?_)))
   ·
    refine Fpg (gT hg58) fa_62_4 Z (Ldg (gT hg58) isAgg3 Z (Sg (gT hg58) Z (Sg (gT hg58) Z (If h54 (fun hg59 h54 => ?_) (fun hg59 h54 => ?_)))))
    ·
     refine KF hg59 Z (KF hg59 Z (KF hg59 Z (KF hg59 Z (Pkg (gT hg58) hg59 Z (Pk hg58 Z (S Z (WO.nil ?_)))))))
     obtain rfl := Oi h54
     exact cutN (Lr [])
    ·
     refine vX (.agg (Course.c a1)) (OpV.loadA Z isAgg33 sizeOf33 Z (Pts.cells Z Z) Z Z) ?_ (gT hg59)
     refine Fpg (gT hg59) fa_62_4 Z (Ldg (gT hg59) isAgg3 Z (Bd h54 fun r60 hr60 h54 => ?_))
     refine WO.callD [] (OpC.fn call65 Z Z Z) (k_g _ _ _ _ hr60) ?_ (hg := (gT hg59))
     rintro _ _ ⟨rfl, rfl⟩
     refine aV (.bool r60) [_, _] Z Z ?_
     refine Pkg (gT hg58) hg59 Z (Pk hg58 Z (S Z (WO.nil ?_)))
     obtain rfl := Oi h54
     exact cutN (Lr [])
   ·
    refine KF hg58 Z (KF hg58 Z (KF hg58 Z (KF hg58 Z (KU Z (KU Z (KU Z (KU Z (KF hg58 Z (Pk hg58 Z (S Z (WO.nil ?_)))))))))))
    obtain rfl := Oi h54
    exact cutN (Lr [])
  ·
   refine KF hg56 Z (KF hg56 Z (KF hg56 Z (KF hg56 Z (Pk hg56 Z (S Z (KF Z Z (KF Z Z (KF Z Z (KF Z Z (KU Z (KU Z (KU Z (KU Z (KF Z Z (S Z (S Z (WO.nil ?_)))))))))))))))))
   obtain rfl := Oi h54
   exact cutN (Lr [])
 refine seqN (TC.le hle (TC.ret ?_))
 obtain rfl := Oi h
 refine ⟨[(4, _)], _, _, ?_, ResOK.one Z Z, Z, Z⟩
 exact Lr []
def F_gf (n : Nat) (a1 : Course) (s13 : Int) : Option (Ctl Int (Ctl Unit Bool)) :=
  (bif decide (s13 < (a1.Mats.length : Int)) then (idx a1.Mats s13).bind fun x17 => (F_b n x17.Kind 1 3).bind fun r18 => (bif (!r18) then some (.done (.done false)) else some (.cont (IntKind.i64.wrap (s13 + 1)))) else some (.done (.cont ())))
def F_el (n : Nat) (a1 : Course) (s102 : Int) (x106 : Leg) (s146 : Int) : Option (Ctl Int (Ctl Unit (Ctl Int (Ctl Unit Bool)))) :=
  (bif decide (s146 < s102) then ((idx a1.Legs s146).bind fun x155 => (bif (x155.From == x106.From) then (idx a1.Legs s146).bind fun x157 => some (x157.To == x106.To) else some false) : Option Bool).bind fun b153 => (bif b153 then some (.done (.done (.done (.done false)))) else some (.cont (IntKind.i64.wrap (s146 + 1)))) else some (.done (.cont ())))
def F_cm (n : Nat) (a1 : Course) (s102 : Int) : Option (Ctl Int (Ctl Unit Bool)) :=
  (bif decide (s102 < (a1.Legs.length : Int)) then (idx a1.Legs s102).bind fun x106 => ((F_g n a1 x106.From).bind fun r115 => (bif (!r115) then some true else (F_g n a1 x106.To).bind fun r117 => (bif (!r117) then some true else (bif decide (x106.Min < 0) then some true else (bif decide (x106.Max < x106.Min) then some true else some (decide (68719476736 < x106.Max)))))) : Option Bool).bind fun b113 => (bif b113 then some (.done (.done false)) else (iter (F_el n a1 s102 x106) n 0 : Option (Ctl Unit (Ctl Int (Ctl Unit Bool)))).bind fun b143 => match b143 with | .cont sb143 => (some (.cont (IntKind.i64.wrap (s102 + 1)))) | .done sb143 => some sb143) else some (.done (.cont ())))
def F_fq (n : Nat) (a1 : Course) (s171 : Int) : Option (Ctl Int (Ctl Unit Bool)) :=
  (bif decide (s171 < (a1.Distances.length : Int)) then (idx a1.Distances s171).bind fun x175 => (F_ct n a1 x175).bind fun r176 => (bif (!r176) then some (.done (.done false)) else some (.cont (IntKind.i64.wrap (s171 + 1)))) else some (.done (.cont ())))
def F_fk (n : Nat) (a1 : Course) (s190 : Int) : Option (Ctl Int (Ctl Unit Bool)) :=
  (bif decide (s190 < (a1.Waves.length : Int)) then (idx a1.Waves s190).bind fun x194 => (F_b n x194.Gun 0 1099511627776).bind fun r195 => (bif (!r195) then some (.done (.done false)) else some (.cont (IntKind.i64.wrap (s190 + 1)))) else some (.done (.cont ())))
def F_fg (n : Nat) (a1 : Course) (s263 : Int) : Option (Ctl Int (Ctl Unit Bool)) :=
  (bif decide (s263 < (a1.Offences.length : Int)) then (idx a1.Offences s263).bind fun x267 => ((F_b n x267.Time 0 68719476736).bind fun r273 => (bif r273 then (bif (x267.Laps == 0) then some (!x267.Out) else some false) else some false) : Option Bool).bind fun b271 => ((bif (x267.Time == 0) then (F_b n x267.Laps 1 64).bind fun r282 => (bif r282 then some (!x267.Out) else some false) else some false) : Option Bool).bind fun b279 => ((bif (x267.Time == 0) then (bif (x267.Laps == 0) then some x267.Out else some false) else some false) : Option Bool).bind fun b286 => ((bif (!b271) then (bif (!b279) then some (!b286) else some false) else some false) : Option Bool).bind fun b292 => (bif b292 then some (.done (.done false)) else some (.cont (IntKind.i64.wrap (s263 + 1)))) else some (.done (.cont ())))
def F_fs (n : Nat) (a1 : Course) (s319 : Int) : Option (Ctl Int (Ctl Unit Bool)) :=
  (bif decide (s319 < (a1.Categories.length : Int)) then (idx a1.Categories s319).bind fun x323 => ((bif decide (x323.From < 0) then some true else (bif decide (x323.To < x323.From) then some true else some (decide (120 < x323.To)))) : Option Bool).bind fun b326 => (bif b326 then some (.done (.done false)) else some (.cont (IntKind.i64.wrap (s319 + 1)))) else some (.done (.cont ())))
def F_dh (n : Nat) (a1 : Course) (s414 : Int) (x418 : Prize) (s458 : Int) : Option (Ctl Int (Ctl Unit (Ctl Int (Ctl Unit Bool)))) :=
  (bif decide (s458 < s414) then (idx a1.Prizes s458).bind fun x462 => ((bif (x462.Distance == x418.Distance) then (bif (x462.Category == x418.Category) then some (x462.Rank == x418.Rank) else some false) else some false) : Option Bool).bind fun b465 => (bif b465 then some (.done (.done (.done (.done false)))) else some (.cont (IntKind.i64.wrap (s458 + 1)))) else some (.done (.cont ())))
def F_bc (n : Nat) (a1 : Course) (s414 : Int) : Option (Ctl Int (Ctl Unit Bool)) :=
  (bif decide (s414 < (a1.Prizes.length : Int)) then (idx a1.Prizes s414).bind fun x418 => ((F_b n x418.Distance 0 (IntKind.i64.wrap ((a1.Distances.length : Int) - 1))).bind fun r428 => (bif (!r428) then some true else (F_b n x418.Category (-1) (IntKind.i64.wrap ((a1.Categories.length : Int) - 1))).bind fun r430 => (bif (!r430) then some true else (F_b n x418.Rank 1 4000).bind fun r432 => (bif (!r432) then some true else (F_b n x418.Amount 1 1125899906842624).bind fun r434 => some (!r434)))) : Option Bool).bind fun b426 => (bif b426 then some (.done (.done false)) else (iter (F_dh n a1 s414 x418) n 0 : Option (Ctl Unit (Ctl Int (Ctl Unit Bool)))).bind fun b455 => match b455 with | .cont sb455 => (some (.cont (IntKind.i64.wrap (s414 + 1)))) | .done sb455 => some sb455) else some (.done (.cont ())))
def F_ax (n : Nat) (a1 : Course) : Option Bool :=
  (iter (F_gf n a1) n 0 : Option (Ctl Unit Bool)).bind fun b10 => match b10 with | .cont sb10 => ((iter (F_cm n a1) n 0 : Option (Ctl Unit Bool)).bind fun b99 => match b99 with | .cont sb99 => ((iter (F_fq n a1) n 0 : Option (Ctl Unit Bool)).bind fun b168 => match b168 with | .cont sb168 => ((iter (F_fk n a1) n 0 : Option (Ctl Unit Bool)).bind fun b187 => match b187 with | .cont sb187 => ((iter (F_fg n a1) n 0 : Option (Ctl Unit Bool)).bind fun b260 => match b260 with | .cont sb260 => ((iter (F_fs n a1) n 0 : Option (Ctl Unit Bool)).bind fun b316 => match b316 with | .cont sb316 => ((iter (F_bc n a1) n 0 : Option (Ctl Unit Bool)).bind fun b411 => match b411 with | .cont sb411 => (((F_b n a1.Faults.Misses 0 16).bind fun r485 => (bif r485 then (F_b n a1.Faults.Strays 0 16).bind fun r487 => (bif r487 then (F_b n a1.Faults.Window 0 4294967296).bind fun r489 => (bif r489 then (F_b n a1.Faults.Residual 0 4294967296).bind fun r491 => (bif r491 then (F_b n a1.Faults.Drift 0 100000).bind fun r493 => (bif r493 then (F_b n a1.Fee 0 1125899906842624).bind fun r495 => (bif r495 then (F_b n a1.Deadline 0 1099511627776).bind fun r497 => some r497 else some false) else some false) else some false) else some false) else some false) else some false) : Option Bool).bind fun b483 => some b483) | .done sb411 => some sb411) | .done sb316 => some sb316) | .done sb260 => some sb260) | .done sb187 => some sb187) | .done sb168 => some sb168) | .done sb99 => some sb99) | .done sb10 => some sb10
theorem k_ax (n : Nat) (a1 : Course) (r : Bool) (h : F_ax n a1 = some r) :
    C prog 39 [.agg (Course.c a1)] [] (fun a H => a = .bool r ∧ H = []) := by
 refine C.of_body func39 Z Z Z ?_
 refine Rg ?_
 refine vH (OpH.box Z Z Z Z Z) ?_
 refine aV (.ptr 0 0) [.cells 33 (Course.c a1)] Z Z ?_
 refine S Z (Nx (TC.seq (Rg (S Z (Nx (Bd h fun b10 h11 h => ?_))))))
 refine TC.cutE (b := b10) (fun sb10 => [(1, .ptr 0 0)]) (fun sb10 => [.cells 33 (Course.c a1)]) ?_ (fun sb10 env H hbe hle => ?_)
 ·
  refine TC.block ?_
  refine TC.loop (E := fun s13 => [(1, .ptr 0 0), (3, .int .i64 s13)]) (Hp := fun s13 => [.cells 33 (Course.c a1)]) h11 ?_ ?_
  ·
   exact Lr [0]
  intro s13 d14 h15 hb12
  refine TC.seq (Rg (S Z (Fp fa_33_1 Z (Ld isAgg22 Z (LnM runUnderlying22 Z (S Z (Nx (CnS Z h15 (fun hc16 h15 => ?_) (fun hc16 h15 => ?_)))))))))
  ·
   refine ExX (loopX h15 ?_)
   obtain rfl := hb12 _ (Oi h15).symm
   exact bloE (cutEN Z (Lr [0]))
  refine SkN (TC.seq (TC.block (Rg (Fp fa_33_1 Z (Ld isAgg22 Z (S Z (Bd h15 fun x17 hx17 h15 => Ix hx17 runUnderlying22 sizeOf107 Z (Fr fa_107_1 Z (Ld isAgg3 Z (Bd h15 fun r18 hr18 h15 => ?_))))))))))
  refine WO.callD [] (OpC.fn call64 Z Z Z) (k_b _ _ _ _ _ hr18) ?_
  rintro _ _ ⟨rfl, rfl⟩
  refine aV (.bool r18) [_] Z Z ?_
  refine S Z (Nx (Cn Z h15 (fun hc19 h15 => ?_) (fun hc19 h15 => ?_)))
  ·
   refine Rg (S Z (Nx (TC.ret (bloR (seqR (loopR h15 ?_))))))
   obtain rfl := hb12 _ (Oi h15).symm
   refine bloR (cutER (seqR ?_))
   obtain rfl := Oi h
   refine ⟨[(2, _)], _, _, ?_, ResOK.one Z Z, Z, Z⟩
   exact Lr []
  exact TC.skip (bloN (seqN (TC.region (S Z (S Z (S Z (WO.nil (loopN h15 (Lr [0])))))))))
 subst hbe
 refine seqN (TC.le hle (TC.seq (Rg (S Z (Nx (Bd h fun b99 h100 h => ?_))))))
 refine TC.cutE (b := b99) (fun sb99 => [(1, .ptr 0 0)]) (fun sb99 => [.cells 33 (Course.c a1)]) ?_ (fun sb99 env H hbe hle => ?_)
 ·
  refine TC.block ?_
  refine TC.loop (E := fun s102 => [(1, .ptr 0 0), (4, .int .i64 s102)]) (Hp := fun s102 => [.cells 33 (Course.c a1)]) h100 ?_ ?_
  ·
   exact Lr [0]
  intro s102 d103 h104 hb101
  refine TC.seq (Rg (S Z (Fp fa_33_2 Z (Ld isAgg23 Z (LnM runUnderlying23 Z (S Z (Nx (CnS Z h104 (fun hc105 h104 => ?_) (fun hc105 h104 => ?_)))))))))
  ·
   refine ExX (loopX h104 ?_)
   obtain rfl := hb101 _ (Oi h104).symm
   exact bloE (cutEN Z (Lr [0]))
  refine SkN (TC.seq (TC.block (Rg (Fp fa_33_2 Z (Ld isAgg23 Z (S Z (Bd h104 fun x106 hx106 h104 => Ix hx106 runUnderlying23 sizeOf90 Z ?_)))))))
  refine vX (.agg (Leg.c x106)) (OpV.loadA Z isAgg90 sizeOf90 Z Pts.rp Z Z) ?_
  refine vH (OpH.allocZ (v := (.agg [.int .i64 0, .int .i64 0, .int .i64 0, .int .i64 0])) zeroValue90 (ZR.agg (ZL.cons ZR.int (ZL.cons ZR.int (ZL.cons ZR.int (ZL.cons ZR.int ZL.nil)))))) ?_
  refine aV (.ptr 1 0) [_, .cells 90 [.int .i64 0, .int .i64 0, .int .i64 0, .int .i64 0]] Z Z ?_
  refine vU (OpU.store Z Z Z sizeOf90 Z Z Z Z Z Z Z) ?_
  refine WO.atH (H := [_, .cells 90 (Leg.c x106)]) Z ?_
  refine Nx (TC.seq (TC.seq (Bd h104 fun b113 h114 h104 => ?_)))
  refine TC.cut ([(1, .ptr 0 0), (4, .int .i64 s102), (5, .ptr 1 0), (76, .bool b113)]) ([.cells 33 (Course.c a1), .cells 90 (Leg.c x106)]) ?_ (fun env H hle => ?_)
  ·
   refine TC.region ?_
   refine vX (.agg (Course.c a1)) (OpV.loadA Z isAgg33 sizeOf33 Z (Pts.cells Z Z) Z Z) ?_
   refine Fp fa_90_0 Z (Ld isAgg3 Z (Bd h114 fun r115 hr115 h114 => ?_))
   refine WO.callD [] (OpC.fn call65 Z Z Z) (k_g _ _ _ _ hr115) ?_
   rintro _ _ ⟨rfl, rfl⟩
   refine aV (.bool r115) [_, _] Z Z ?_
   refine S Z (S Z (If h114 (fun hg116 h114 => ?_) (fun hg116 h114 => ?_)))
   ·
    refine KF hg116 Z (KF hg116 Z (KF hg116 Z (KF hg116 Z (KF hg116 Z (Pk hg116 Z (S Z (KF Z Z (KF Z Z (KF Z Z (S Z (S Z (KF Z Z (KF Z Z (KF Z Z (KF Z Z (KF Z Z (S Z (S Z (KF Z Z (KF Z Z (KF Z Z (S Z (WO.nil ?_)))))))))))))))))))))))
    obtain rfl := Oi h114
    exact cutN (Lr [0, 1])
   ·
    refine vX (.agg (Course.c a1)) (OpV.loadA Z isAgg33 sizeOf33 Z (Pts.cells Z Z) Z Z) ?_ (gT hg116)
    refine Fpg (gT hg116) fa_90_1 Z (Ldg (gT hg116) isAgg3 Z (Bd h114 fun r117 hr117 h114 => ?_))
    refine WO.callD [] (OpC.fn call65 Z Z Z) (k_g _ _ _ _ hr117) ?_ (hg := (gT hg116))
    rintro _ _ ⟨rfl, rfl⟩
    refine aV (.bool r117) [_, _] Z Z ?_
    refine Sg (gT hg116) Z (Pk hg116 Z (S Z (If h114 (fun hg118 h114 => ?_) (fun hg118 h114 => ?_))))
    ·
     refine KF hg118 Z (KF hg118 Z (KF hg118 Z (Pk hg118 Z (S Z (KF Z Z (KF Z Z (KF Z Z (KF Z Z (KF Z Z (S Z (S Z (KF Z Z (KF Z Z (KF Z Z (S Z (WO.nil ?_))))))))))))))))
     obtain rfl := Oi h114
     exact cutN (Lr [0, 1])
    ·
     refine Fpg (gT hg118) fa_90_2 Z (Ldg (gT hg118) isAgg3 Z (Sg (gT hg118) Z (Pk hg118 Z (S Z (If h114 (fun hg119 h114 => ?_) (fun hg119 h114 => ?_))))))
     ·
      refine KF hg119 Z (KF hg119 Z (KF hg119 Z (KF hg119 Z (KF hg119 Z (Pk hg119 Z (S Z (KF Z Z (KF Z Z (KF Z Z (S Z (WO.nil ?_)))))))))))
      obtain rfl := Oi h114
      exact cutN (Lr [0, 1])
     ·
      refine Fpg (gT hg119) fa_90_2 Z (Ldg (gT hg119) isAgg3 Z (Fpg (gT hg119) fa_90_3 Z (Ldg (gT hg119) isAgg3 Z (Sg (gT hg119) Z (Pk hg119 Z (S Z (If h114 (fun hg120 h114 => ?_) (fun hg120 h114 => ?_))))))))
      ·
       refine KF hg120 Z (KF hg120 Z (KF hg120 Z (Pk hg120 Z (WO.nil ?_))))
       obtain rfl := Oi h114
       exact cutN (Lr [0, 1])
      ·
       refine Fpg (gT hg120) fa_90_3 Z (Ldg (gT hg120) isAgg3 Z (Sg (gT hg120) Z (Pk hg120 Z (WO.nil ?_))))
       obtain rfl := Oi h114
       exact cutN (Lr [0, 1])
  refine seqN (TC.le hle (Cn Z h104 (fun hc121 h104 => ?_) (fun hc121 h104 => ?_)))
  ·
   refine Rg (S Z (Nx (RtR (bloR (seqR (loopR h104 ?_))))))
   obtain rfl := hb101 _ (Oi h104).symm
   refine bloR (cutER (seqR ?_))
   obtain rfl := Oi h
   refine ⟨[(2, _)], _, _, ?_, ResOK.one Z Z, Z, Z⟩
   exact Lr []
  refine SkN (Rg (S Z (Nx (Bd h104 fun b143 h144 h104 => ?_))))
  refine TC.cutE (b := b143) (fun sb143 => [(1, .ptr 0 0), (4, .int .i64 s102)]) (fun sb143 => [.cells 33 (Course.c a1)]) ?_ (fun sb143 env H hbe hle => ?_)
  ·
   refine TC.block ?_
   refine TC.loop (E := fun s146 => [(1, .ptr 0 0), (4, .int .i64 s102), (5, .ptr 1 0), (6, .int .i64 s146)]) (Hp := fun s146 => [.cells 33 (Course.c a1), .cells 90 (Leg.c x106)]) h144 ?_ ?_
   ·
    exact Lr [0, 1]
   intro s146 d147 h148 hb145
   refine TC.seq (Rg (S Z (S Z (S Z (Nx (CnS Z h148 (fun hc149 h148 => ?_) (fun hc149 h148 => ?_)))))))
   ·
    refine ExX (loopX h148 ?_)
    obtain rfl := hb145 _ (Oi h148).symm
    exact bloE (cutEN Z (Lr [0]))
   refine SkN (TC.seq (TC.block (TC.seq (Bd h148 fun b153 h154 h148 => ?_))))
   refine TC.cut ([(1, .ptr 0 0), (4, .int .i64 s102), (5, .ptr 1 0), (6, .int .i64 s146), (101, .bool b153)]) ([.cells 33 (Course.c a1), .cells 90 (Leg.c x106)]) ?_ (fun env H hle => ?_)
   ·
    obtain ⟨x155, hx155, h154⟩ := bnd h154
    refine If h154 (fun hg156 h154 => ?_) (fun hg156 h154 => ?_)
    ·
     obtain ⟨x157, hx157, h154⟩ := bnd h154
     refine TC.draw 18 0 [82, 83, 84, 85, 86, 87, 88, 89, 90, 91, 92, 93, 94, 95, 96, 97, 98, 99] [0, 0, 0, 0, 0, 0, 0, 0, 0, 0, 0, 0, 0, 0, 0, 0, 0, 0] [false, false, false, false, false, false, false, false, false, false, false, false, false, false, false, false, false, false] [.ptr 0 2, .rsl 4 (List.map Leg.c a1.Legs), .int .i64 s146, .rp [.int .i64 x155.From, .int .i64 x155.To, .int .i64 x155.Min, .int .i64 x155.Max], .rp [.int .i64 x155.From, .int .i64 x155.To, .int .i64 x155.Min, .int .i64 x155.Max], .int .i64 x155.From, .ptr 1 0, .int .i64 x106.From, .bool (x155.From == x106.From), .bool (x155.From == x106.From), .ptr 0 2, .rsl 4 (List.map Leg.c a1.Legs), .int .i64 s146, .rp [.int .i64 x157.From, .int .i64 x157.To, .int .i64 x157.Min, .int .i64 x157.Max], .rp [.int .i64 x157.To, .int .i64 x157.Min, .int .i64 x157.Max], .int .i64 x157.To, .ptr 1 1, .int .i64 x106.To] [[.cells 33 (Course.c a1), .cells 90 (Leg.c x106)]] ([.cells 33 (Course.c a1), .cells 90 (Leg.c x106)]) draws Z Z Z Z Z Z Z Z ?_ ?_
     ·
      refine Ob.cons ?_ (Ob.cons ?_ (Ob.cons ?_ (Ob.cons ?_ (Ob.cons ?_ (Ob.cons ?_ (Ob.cons ?_ (Ob.cons ?_ (Ob.cons ?_ (Ob.cons ?_ (Ob.cons ?_ (Ob.cons ?_ (Ob.cons ?_ (Ob.cons ?_ (Ob.cons ?_ (Ob.cons ?_ (Ob.cons ?_ (Ob.cons ?_ (Ob.nil))))))))))))))))))
      ·
        refine OB [(1, _)] 82 Z Z Z (Sb.old Z Z Sb.nil) ?_
        exact Fp fa_33_2 Z Wp
      ·
        refine OB [(82, _)] 83 Z Z Z (Sb.dep 0 Z Z Z Sb.nil) ?_
        exact Ld isAgg23 Z Wp
      ·
        refine OB [(6, _)] 84 Z Z Z (Sb.old Z Z Sb.nil) ?_
        exact S Z Wp
      ·
        refine OB [(83, _), (84, _)] 85 Z Z Z (Sb.dep 1 Z Z Z (Sb.dep 2 Z Z Z Sb.nil)) ?_
        exact Ix hx155 runUnderlying23 sizeOf90 Z Wp
      ·
        refine OB [(85, _)] 86 Z Z Z (Sb.dep 3 Z Z Z Sb.nil) ?_
        exact Fr fa_90_0 Z Wp
      ·
        refine OB [(86, _)] 87 Z Z Z (Sb.dep 4 Z Z Z Sb.nil) ?_
        exact Ld isAgg3 Z Wp
      ·
        refine OB [(5, _)] 88 Z Z Z (Sb.old Z Z Sb.nil) ?_
        exact Fp fa_90_0 Z Wp
      ·
        refine OB [(88, _)] 89 Z Z Z (Sb.dep 6 Z Z Z Sb.nil) ?_
        exact Ld isAgg3 Z Wp
      ·
        refine OB [(87, _), (89, _)] 90 Z Z Z (Sb.dep 5 Z Z Z (Sb.dep 7 Z Z Z Sb.nil)) ?_
        exact S Z Wp
      ·
        refine OB [(90, _)] 91 Z Z Z (Sb.dep 8 Z Z Z Sb.nil) ?_
        exact S Z Wp
      ·
        refine OB [(1, _), (91, _)] 92 Z Z Z (Sb.old Z Z (Sb.dep 9 Z Z Z Sb.nil)) ?_
        exact Fpg (gT hg156) fa_33_2 Z Wp
      ·
        refine OB [(91, _), (92, _)] 93 Z Z Z (Sb.dep 9 Z Z Z (Sb.dep 10 Z Z Z Sb.nil)) ?_
        exact Ldg (gT hg156) isAgg23 Z Wp
      ·
        refine OB [(6, _), (91, _)] 94 Z Z Z (Sb.old Z Z (Sb.dep 9 Z Z Z Sb.nil)) ?_
        exact Sg (gT hg156) Z Wp
      ·
        refine OB [(91, _), (93, _), (94, _)] 95 Z Z Z (Sb.dep 9 Z Z Z (Sb.dep 11 Z Z Z (Sb.dep 12 Z Z Z Sb.nil))) ?_
        refine vX (.rp [.int .i64 x157.From, .int .i64 x157.To, .int .i64 x157.Min, .int .i64 x157.Max]) (OpV.ixM (e := Leg.c) (l := a1.Legs) (v := x157) hx157 runUnderlying23 sizeOf90) ?_ (gT hg156)
        exact WO.nil Post1.mk
      ·
        refine OB [(91, _), (95, _)] 96 Z Z Z (Sb.dep 9 Z Z Z (Sb.dep 13 Z Z Z Sb.nil)) ?_
        exact Frg (gT hg156) fa_90_1 Z Wp
      ·
        refine OB [(91, _), (96, _)] 97 Z Z Z (Sb.dep 9 Z Z Z (Sb.dep 14 Z Z Z Sb.nil)) ?_
        exact Ldg (gT hg156) isAgg3 Z Wp
      ·
        refine OB [(5, _), (91, _)] 98 Z Z Z (Sb.old Z Z (Sb.dep 9 Z Z Z Sb.nil)) ?_
        exact Fpg (gT hg156) fa_90_1 Z Wp
      ·
        refine OB [(91, _), (98, _)] 99 Z Z Z (Sb.dep 9 Z Z Z (Sb.dep 16 Z Z Z Sb.nil)) ?_
        exact Ldg (gT hg156) isAgg3 Z Wp
     refine Sg (gT hg156) Z (Pk hg156 Z (WO.nil ?_))
     obtain rfl := Oi h154
     exact cutN (Lr [0, 1])
    ·
     refine TC.draw 18 0 [82, 83, 84, 85, 86, 87, 88, 89, 90, 91, 92, 93, 94, 95, 96, 97, 98, 99] [0, 0, 0, 0, 0, 0, 0, 0, 0, 0, 0, 0, 0, 0, 0, 0, 0, 0] [false, false, false, false, false, false, false, false, false, false, false, false, false, false, false, false, false, false] [.ptr 0 2, .rsl 4 (List.map Leg.c a1.Legs), .int .i64 s146, .rp [.int .i64 x155.From, .int .i64 x155.To, .int .i64 x155.Min, .int .i64 x155.Max], .rp [.int .i64 x155.From, .int .i64 x155.To, .int .i64 x155.Min, .int .i64 x155.Max], .int .i64 x155.From, .ptr 1 0, .int .i64 x106.From, .bool (x155.From == x106.From), .bool (x155.From == x106.From), .tup [], .tup [], .tup [], .tup [], .tup [], .tup [], .tup [], .tup []] [[.cells 33 (Course.c a1), .cells 90 (Leg.c x106)]] ([.cells 33 (Course.c a1), .cells 90 (Leg.c x106)]) draws Z Z Z Z Z Z Z Z ?_ ?_
     ·
      refine Ob.cons ?_ (Ob.cons ?_ (Ob.cons ?_ (Ob.cons ?_ (Ob.cons ?_ (Ob.cons ?_ (Ob.cons ?_ (Ob.cons ?_ (Ob.cons ?_ (Ob.cons ?_ (Ob.cons ?_ (Ob.cons ?_ (Ob.cons ?_ (Ob.cons ?_ (Ob.cons ?_ (Ob.cons ?_ (Ob.cons ?_ (Ob.cons ?_ (Ob.nil))))))))))))))))))
      ·
        refine OB [(1, _)] 82 Z Z Z (Sb.old Z Z Sb.nil) ?_
        exact Fp fa_33_2 Z Wp
      ·
        refine OB [(82, _)] 83 Z Z Z (Sb.dep 0 Z Z Z Sb.nil) ?_
        exact Ld isAgg23 Z Wp
      ·
        refine OB [(6, _)] 84 Z Z Z (Sb.old Z Z Sb.nil) ?_
        exact S Z Wp
      ·
        refine OB [(83, _), (84, _)] 85 Z Z Z (Sb.dep 1 Z Z Z (Sb.dep 2 Z Z Z Sb.nil)) ?_
        exact Ix hx155 runUnderlying23 sizeOf90 Z Wp
      ·
        refine OB [(85, _)] 86 Z Z Z (Sb.dep 3 Z Z Z Sb.nil) ?_
        exact Fr fa_90_0 Z Wp
      ·
        refine OB [(86, _)] 87 Z Z Z (Sb.dep 4 Z Z Z Sb.nil) ?_
        exact Ld isAgg3 Z Wp
      ·
        refine OB [(5, _)] 88 Z Z Z (Sb.old Z Z Sb.nil) ?_
        exact Fp fa_90_0 Z Wp
      ·
        refine OB [(88, _)] 89 Z Z Z (Sb.dep 6 Z Z Z Sb.nil) ?_
        exact Ld isAgg3 Z Wp
      ·
        refine OB [(87, _), (89, _)] 90 Z Z Z (Sb.dep 5 Z Z Z (Sb.dep 7 Z Z Z Sb.nil)) ?_
        exact S Z Wp
      ·
        refine OB [(90, _)] 91 Z Z Z (Sb.dep 8 Z Z Z Sb.nil) ?_
        exact S Z Wp
      ·
        refine OB [(1, _), (91, _)] 92 Z Z Z (Sb.old Z Z (Sb.dep 9 Z Z Z Sb.nil)) ?_
        exact K (gF hg156) Z Wp
      ·
        refine OB [(91, _), (92, _)] 93 Z Z Z (Sb.dep 9 Z Z Z (Sb.dep 10 Z Z Z Sb.nil)) ?_
        exact K (gF hg156) Z Wp
      ·
        refine OB [(6, _), (91, _)] 94 Z Z Z (Sb.old Z Z (Sb.dep 9 Z Z Z Sb.nil)) ?_
        exact K (gF hg156) Z Wp
      ·
        refine OB [(91, _), (93, _), (94, _)] 95 Z Z Z (Sb.dep 9 Z Z Z (Sb.dep 11 Z Z Z (Sb.dep 12 Z Z Z Sb.nil))) ?_
        exact K (gF hg156) Z Wp
      ·
        refine OB [(91, _), (95, _)] 96 Z Z Z (Sb.dep 9 Z Z Z (Sb.dep 13 Z Z Z Sb.nil)) ?_
        exact K (gF hg156) Z Wp
      ·
        refine OB [(91, _), (96, _)] 97 Z Z Z (Sb.dep 9 Z Z Z (Sb.dep 14 Z Z Z Sb.nil)) ?_
        exact K (gF hg156) Z Wp
      ·
        refine OB [(5, _), (91, _)] 98 Z Z Z (Sb.old Z Z (Sb.dep 9 Z Z Z Sb.nil)) ?_
        exact K (gF hg156) Z Wp
      ·
        refine OB [(91, _), (98, _)] 99 Z Z Z (Sb.dep 9 Z Z Z (Sb.dep 16 Z Z Z Sb.nil)) ?_
        exact K (gF hg156) Z Wp
     refine KF hg156 Z (Pk hg156 Z (WO.nil ?_))
     obtain rfl := Oi h154
     exact cutN (Lr [0, 1])
   refine seqN (TC.le hle (Cn Z h148 (fun hc158 h148 => ?_) (fun hc158 h148 => ?_)))
   ·
    refine Rg (S Z (Nx (TC.ret (bloR (seqR (loopR h148 ?_))))))
    obtain rfl := hb145 _ (Oi h148).symm
    refine bloR (cutER (bloR (seqR (loopR h104 ?_))))
    obtain rfl := hb101 _ (Oi h104).symm
    refine bloR (cutER (seqR ?_))
    obtain rfl := Oi h
    refine ⟨[(2, _)], _, _, ?_, ResOK.one Z Z, Z, Z⟩
    exact Lr []
   exact TC.skip (bloN (seqN (TC.region (S Z (S Z (S Z (WO.nil (loopN h148 (Lr [0, 1])))))))))
  subst hbe
  exact bloN (seqN (TC.le hle (TC.region (S Z (S Z (S Z (WO.nil (loopN h104 (Lr [0])))))))))
 subst hbe
 refine seqN (TC.le hle (TC.seq (Rg (S Z (Nx (Bd h fun b168 h169 h => ?_))))))
 refine TC.cutE (b := b168) (fun sb168 => [(1, .ptr 0 0)]) (fun sb168 => [.cells 33 (Course.c a1)]) ?_ (fun sb168 env H hbe hle => ?_)
 ·
  refine TC.block ?_
  refine TC.loop (E := fun s171 => [(1, .ptr 0 0), (7, .int .i64 s171)]) (Hp := fun s171 => [.cells 33 (Course.c a1)]) h169 ?_ ?_
  ·
   exact Lr [0]
  intro s171 d172 h173 hb170
  refine TC.seq (Rg (S Z (Fp fa_33_3 Z (Ld isAgg24 Z (LnM runUnderlying24 Z (S Z (Nx (CnS Z h173 (fun hc174 h173 => ?_) (fun hc174 h173 => ?_)))))))))
  ·
   refine ExX (loopX h173 ?_)
   obtain rfl := hb170 _ (Oi h173).symm
   exact bloE (cutEN Z (Lr [0]))
  refine SkN (TC.seq (TC.block (TC.seq ?_)))
  obtain ⟨x175, hx175, h173⟩ := bnd h173
  refine TC.draw 6 0 [109, 110, 111, 112, 113, 114] [0, 0, 0, 0, 0, 0] [false, false, false, false, false, false] [.agg (Course.c a1), .ptr 0 3, .rsl 5 (List.map Distance.c a1.Distances), .int .i64 s171, .rp [.str x175.Name, .rsl 3 (List.map Part.enc x175.Route), .int .i64 x175.Timing, .rsl 3 (List.map Cutoff.c x175.Cutoffs), .int .i64 x175.Extra], .agg (Distance.c x175)] [[.cells 33 (Course.c a1)]] ([.cells 33 (Course.c a1)]) draws Z Z Z Z Z Z Z Z ?_ ?_
  ·
   refine Ob.cons ?_ (Ob.cons ?_ (Ob.cons ?_ (Ob.cons ?_ (Ob.cons ?_ (Ob.cons ?_ (Ob.nil))))))
   ·
     refine OB [(1, _)] 109 Z Z Z (Sb.old Z Z Sb.nil) ?_
     refine vX (.agg (Course.c a1)) (OpV.loadA Z isAgg33 sizeOf33 Z (Pts.cells Z Z) Z Z) ?_
     exact WO.nil Post1.mk
   ·
     refine OB [(1, _)] 110 Z Z Z (Sb.old Z Z Sb.nil) ?_
     exact Fp fa_33_3 Z Wp
   ·
     refine OB [(110, _)] 111 Z Z Z (Sb.dep 1 Z Z Z Sb.nil) ?_
     exact Ld isAgg24 Z Wp
   ·
     refine OB [(7, _)] 112 Z Z Z (Sb.old Z Z Sb.nil) ?_
     exact S Z Wp
   ·
     refine OB [(111, _), (112, _)] 113 Z Z Z (Sb.dep 2 Z Z Z (Sb.dep 3 Z Z Z Sb.nil)) ?_
     exact Ix hx175 runUnderlying24 sizeOf62 Z Wp
   ·
     refine OB [(113, _)] 114 Z Z Z (Sb.dep 4 Z Z Z Sb.nil) ?_
     refine vX (.agg (Distance.c x175)) (OpV.loadA Z isAgg62 sizeOf62 Z Pts.rp Z Z) ?_
     exact WO.nil Post1.mk
  refine Bd h173 fun r176 hr176 h173 => ?_
  refine WO.callD [] (OpC.fn call66 Z Z Z) (k_ct _ _ _ _ hr176) ?_
  rintro _ _ ⟨rfl, rfl⟩
  refine aV (.bool r176) [_] Z Z ?_
  refine S Z (Nx (Cn Z h173 (fun hc177 h173 => ?_) (fun hc177 h173 => ?_)))
  ·
   refine Rg (S Z (Nx (TC.ret (bloR (seqR (loopR h173 ?_))))))
   obtain rfl := hb170 _ (Oi h173).symm
   refine bloR (cutER (seqR ?_))
   obtain rfl := Oi h
   refine ⟨[(2, _)], _, _, ?_, ResOK.one Z Z, Z, Z⟩
   exact Lr []
  exact TC.skip (bloN (seqN (TC.region (S Z (S Z (S Z (WO.nil (loopN h173 (Lr [0])))))))))
 subst hbe
 refine seqN (TC.le hle (TC.seq (Rg (S Z (Nx (Bd h fun b187 h188 h => ?_))))))
 refine TC.cutE (b := b187) (fun sb187 => [(1, .ptr 0 0)]) (fun sb187 => [.cells 33 (Course.c a1)]) ?_ (fun sb187 env H hbe hle => ?_)
 ·
  refine TC.block ?_
  refine TC.loop (E := fun s190 => [(1, .ptr 0 0), (8, .int .i64 s190)]) (Hp := fun s190 => [.cells 33 (Course.c a1)]) h188 ?_ ?_
  ·
   exact Lr [0]
  intro s190 d191 h192 hb189
  refine TC.seq (Rg (S Z (Fp fa_33_4 Z (Ld isAgg25 Z (LnM runUnderlying25 Z (S Z (Nx (CnS Z h192 (fun hc193 h192 => ?_) (fun hc193 h192 => ?_)))))))))
  ·
   refine ExX (loopX h192 ?_)
   obtain rfl := hb189 _ (Oi h192).symm
   exact bloE (cutEN Z (Lr [0]))
  refine SkN (TC.seq (TC.block (Rg (Fp fa_33_4 Z (Ld isAgg25 Z (S Z (Bd h192 fun x194 hx194 h192 => Ix hx194 runUnderlying25 sizeOf109 Z (Fr fa_109_1 Z (Ld isAgg3 Z (Bd h192 fun r195 hr195 h192 => ?_))))))))))
  refine WO.callD [] (OpC.fn call64 Z Z Z) (k_b _ _ _ _ _ hr195) ?_
  rintro _ _ ⟨rfl, rfl⟩
  refine aV (.bool r195) [_] Z Z ?_
  refine S Z (Nx (Cn Z h192 (fun hc196 h192 => ?_) (fun hc196 h192 => ?_)))
  ·
   refine Rg (S Z (Nx (TC.ret (bloR (seqR (loopR h192 ?_))))))
   obtain rfl := hb189 _ (Oi h192).symm
   refine bloR (cutER (seqR ?_))
   obtain rfl := Oi h
   refine ⟨[(2, _)], _, _, ?_, ResOK.one Z Z, Z, Z⟩
   exact Lr []
  exact TC.skip (bloN (seqN (TC.region (S Z (S Z (S Z (WO.nil (loopN h192 (Lr [0])))))))))
 subst hbe
 refine seqN (TC.le hle (TC.seq (Rg (S Z (Nx (Bd h fun b260 h261 h => ?_))))))
 refine TC.cutE (b := b260) (fun sb260 => [(1, .ptr 0 0)]) (fun sb260 => [.cells 33 (Course.c a1)]) ?_ (fun sb260 env H hbe hle => ?_)
 ·
  refine TC.block ?_
  refine TC.loop (E := fun s263 => [(1, .ptr 0 0), (9, .int .i64 s263)]) (Hp := fun s263 => [.cells 33 (Course.c a1)]) h261 ?_ ?_
  ·
   exact Lr [0]
  intro s263 d264 h265 hb262
  refine TC.seq (Rg (S Z (Fp fa_33_5 Z (Ld isAgg26 Z (LnM runUnderlying26 Z (S Z (Nx (CnS Z h265 (fun hc266 h265 => ?_) (fun hc266 h265 => ?_)))))))))
  ·
   refine ExX (loopX h265 ?_)
   obtain rfl := hb262 _ (Oi h265).symm
   exact bloE (cutEN Z (Lr [0]))
  refine SkN (TC.seq (TC.block (Rg (Fp fa_33_5 Z (Ld isAgg26 Z (S Z (Bd h265 fun x267 hx267 h265 => Ix hx267 runUnderlying26 sizeOf111 Z ?_)))))))
  refine vX (.agg (Offence.c x267)) (OpV.loadA Z isAgg111 sizeOf111 Z Pts.rp Z Z) ?_
  refine vH (OpH.allocZ (v := (.agg [.str [], .int .i64 0, .int .i64 0, .bool false])) zeroValue111 (ZR.agg (ZL.cons ZR.str (ZL.cons ZR.int (ZL.cons ZR.int (ZL.cons ZR.bool ZL.nil)))))) ?_
  refine aV (.ptr 1 0) [_, .cells 111 [.str [], .int .i64 0, .int .i64 0, .bool false]] Z Z ?_
  refine vU (OpU.store Z Z Z sizeOf111 Z Z Z Z Z Z Z) ?_
  refine WO.atH (H := [_, .cells 111 (Offence.c x267)]) Z ?_
  refine Nx (TC.seq (Bd h265 fun b271 h272 h265 => ?_))
  refine TC.cut ([(1, .ptr 0 0), (9, .int .i64 s263), (10, .ptr 1 0), (11, .bool b271)]) ([.cells 33 (Course.c a1), .cells 111 (Offence.c x267)]) ?_ (fun env H hle => ?_)
  ·
   refine TC.region (Fp fa_111_1 Z (Ld isAgg3 Z (Bd h272 fun r273 hr273 h272 => ?_)))
   refine WO.callD [] (OpC.fn call64 Z Z Z) (k_b _ _ _ _ _ hr273) ?_
   rintro _ _ ⟨rfl, rfl⟩
   refine aV (.bool r273) [_, _] Z Z ?_
   refine S Z (If h272 (fun hg274 h272 => ?_) (fun hg274 h272 => ?_))
   ·
    refine Fpg (gT hg274) fa_111_2 Z (Ldg (gT hg274) isAgg3 Z (Sg (gT hg274) Z (Pk hg274 Z (S Z (If h272 (fun hg275 h272 => ?_) (fun hg275 h272 => ?_))))))
    ·
     refine Fpg (gT hg275) fa_111_3 Z (Ldg (gT hg275) isAgg4 Z (Sg (gT hg275) Z (Pk hg275 Z (S Z (WO.nil ?_)))))
     obtain rfl := Oi h272
     exact cutN (Lr [0, 1])
    ·
     refine KF hg275 Z (KF hg275 Z (KF hg275 Z (Pk hg275 Z (S Z (WO.nil ?_)))))
     obtain rfl := Oi h272
     exact cutN (Lr [0, 1])
   ·
    refine KF hg274 Z (KF hg274 Z (KF hg274 Z (Pk hg274 Z (S Z (KF Z Z (KF Z Z (KF Z Z (S Z (S Z (WO.nil ?_))))))))))
    obtain rfl := Oi h272
    exact cutN (Lr [0, 1])
  refine seqN (TC.le hle (TC.seq (Bd h265 fun b279 h280 h265 => ?_)))
  refine TC.cut ([(1, .ptr 0 0), (9, .int .i64 s263), (10, .ptr 1 0), (11, .bool b271), (12, .bool b279)]) ([.cells 33 (Course.c a1), .cells 111 (Offence.c x267)]) ?_ (fun env H hle => ?_)
  ·
   refine TC.region (Fp fa_111_1 Z (Ld isAgg3 Z (S Z (S Z (If h280 (fun hg281 h280 => ?_) (fun hg281 h280 => ?_))))))
   ·
    refine Fpg (gT hg281) fa_111_2 Z (Ldg (gT hg281) isAgg3 Z (Bd h280 fun r282 hr282 h280 => ?_))
    refine WO.callD [] (OpC.fn call64 Z Z Z) (k_b _ _ _ _ _ hr282) ?_ (hg := (gT hg281))
    rintro _ _ ⟨rfl, rfl⟩
    refine aV (.bool r282) [_, _] Z Z ?_
    refine Pk hg281 Z (S Z (If h280 (fun hg283 h280 => ?_) (fun hg283 h280 => ?_)))
    ·
     refine Fpg (gT hg283) fa_111_3 Z (Ldg (gT hg283) isAgg4 Z (Sg (gT hg283) Z (Pk hg283 Z (S Z (WO.nil ?_)))))
     obtain rfl := Oi h280
     exact cutN (Lr [0, 1])
    ·
     refine KF hg283 Z (KF hg283 Z (KF hg283 Z (Pk hg283 Z (S Z (WO.nil ?_)))))
     obtain rfl := Oi h280
     exact cutN (Lr [0, 1])
   ·
    refine KF hg281 Z (KF hg281 Z (KF hg281 Z (Pk hg281 Z (S Z (KF Z Z (KF Z Z (KF Z Z (S Z (S Z (WO.nil ?_))))))))))
    obtain rfl := Oi h280
    exact cutN (Lr [0, 1])
  refine seqN (TC.le hle (TC.seq (Bd h265 fun b286 h287 h265 => ?_)))
  refine TC.cut ([(1, .ptr 0 0), (9, .int .i64 s263), (11, .bool b271), (12, .bool b279), (13, .bool b286)]) ([.cells 33 (Course.c a1)]) ?_ (fun env H hle => ?_)
  ·
   refine TC.region (Fp fa_111_1 Z (Ld isAgg3 Z (S Z (S Z (If h287 (fun hg288 h287 => ?_) (fun hg288 h287 => ?_))))))
   ·
    refine Fpg (gT hg288) fa_111_2 Z (Ldg (gT hg288) isAgg3 Z (Sg (gT hg288) Z (Pk hg288 Z (S Z (If h287 (fun hg289 h287 => ?_) (fun hg289 h287 => ?_))))))
    ·
     refine Fpg (gT hg289) fa_111_3 Z (Ldg (gT hg289) isAgg4 Z (Pk hg289 Z (S Z (WO.nil ?_))))
     obtain rfl := Oi h287
     exact cutN (Lr [0])
    ·
     refine KF hg289 Z (KF hg289 Z (Pk hg289 Z (S Z (WO.nil ?_))))
     obtain rfl := Oi h287
     exact cutN (Lr [0])
   ·
    refine KF hg288 Z (KF hg288 Z (KF hg288 Z (Pk hg288 Z (S Z (KF Z Z (KF Z Z (S Z (S Z (WO.nil ?_)))))))))
    obtain rfl := Oi h287
    exact cutN (Lr [0])
  refine seqN (TC.le hle (TC.seq (Bd h265 fun b292 h293 h265 => ?_)))
  refine TC.cut ([(1, .ptr 0 0), (9, .int .i64 s263), (191, .bool b292)]) ([.cells 33 (Course.c a1)]) ?_ (fun env H hle => ?_)
  ·
   refine TC.region (S Z (S Z (S Z (If h293 (fun hg294 h293 => ?_) (fun hg294 h293 => ?_)))))
   ·
    refine Sg (gT hg294) Z (Sg (gT hg294) Z (Pk hg294 Z (S Z (If h293 (fun hg295 h293 => ?_) (fun hg295 h293 => ?_)))))
    ·
     refine Sg (gT hg295) Z (Sg (gT hg295) Z (Pk hg295 Z (WO.nil ?_)))
     obtain rfl := Oi h293
     exact cutN (Lr [0])
    ·
     refine KF hg295 Z (KF hg295 Z (Pk hg295 Z (WO.nil ?_)))
     obtain rfl := Oi h293
     exact cutN (Lr [0])
   ·
    refine KF hg294 Z (KF hg294 Z (Pk hg294 Z (S Z (KF Z Z (KF Z Z (S Z (WO.nil ?_)))))))
    obtain rfl := Oi h293
    exact cutN (Lr [0])
  refine seqN (TC.le hle (Cn Z h265 (fun hc296 h265 => ?_) (fun hc296 h265 => ?_)))
  ·
   refine Rg (S Z (Nx (TC.ret (bloR (seqR (loopR h265 ?_))))))
   obtain rfl := hb262 _ (Oi h265).symm
   refine bloR (cutER (seqR ?_))
   obtain rfl := Oi h
   refine ⟨[(2, _)], _, _, ?_, ResOK.one Z Z, Z, Z⟩
   exact Lr []
  exact TC.skip (bloN (seqN (TC.region (S Z (S Z (S Z (WO.nil (loopN h265 (Lr [0])))))))))
 subst hbe
 refine seqN (TC.le hle (TC.seq (Rg (S Z (Nx (Bd h fun b316 h317 h => ?_))))))
 refine TC.cutE (b := b316) (fun sb316 => [(1, .ptr 0 0)]) (fun sb316 => [.cells 33 (Course.c a1)]) ?_ (fun sb316 env H hbe hle => ?_)
 ·
  refine TC.block ?_
  refine TC.loop (E := fun s319 => [(1, .ptr 0 0), (14, .int .i64 s319)]) (Hp := fun s319 => [.cells 33 (Course.c a1)]) h317 ?_ ?_
  ·
   exact Lr [0]
  intro s319 d320 h321 hb318
  refine TC.seq (Rg (S Z (Fp fa_33_6 Z (Ld isAgg27 Z (LnM runUnderlying27 Z (S Z (Nx (CnS Z h321 (fun hc322 h321 => ?_) (fun hc322 h321 => ?_)))))))))
  ·
   refine ExX (loopX h321 ?_)
   obtain rfl := hb318 _ (Oi h321).symm
   exact bloE (cutEN Z (Lr [0]))
  refine SkN (TC.seq (TC.block (Rg (Fp fa_33_6 Z (Ld isAgg27 Z (S Z (Bd h321 fun x323 hx323 h321 => Ix hx323 runUnderlying27 sizeOf52 Z ?_)))))))
  refine vX (.agg (Category.c x323)) (OpV.loadA Z isAgg52 sizeOf52 Z Pts.rp Z Z) ?_
  refine vH (OpH.allocZ (v := (.agg [.str [], .int .i64 0, .int .i64 0])) zeroValue52 (ZR.agg (ZL.cons ZR.str (ZL.cons ZR.int (ZL.cons ZR.int ZL.nil))))) ?_
  refine aV (.ptr 1 0) [_, .cells 52 [.str [], .int .i64 0, .int .i64 0]] Z Z ?_
  refine vU (OpU.store Z Z Z sizeOf52 Z Z Z Z Z Z Z) ?_
  refine WO.atH (H := [_, .cells 52 (Category.c x323)]) Z ?_
  refine Nx (TC.seq (Bd h321 fun b326 h327 h321 => ?_))
  refine TC.cut ([(1, .ptr 0 0), (14, .int .i64 s319), (218, .bool b326)]) ([.cells 33 (Course.c a1)]) ?_ (fun env H hle => ?_)
  ·
   refine TC.region (Fp fa_52_1 Z (Ld isAgg3 Z (S Z (S Z (If h327 (fun hg328 h327 => ?_) (fun hg328 h327 => ?_))))))
   ·
    refine KF hg328 Z (KF hg328 Z (KF hg328 Z (KF hg328 Z (KF hg328 Z (Pk hg328 Z (S Z (KF Z Z (KF Z Z (KF Z Z (S Z (WO.nil ?_)))))))))))
    obtain rfl := Oi h327
    exact cutN (Lr [0])
   ·
    refine Fpg (gT hg328) fa_52_1 Z (Ldg (gT hg328) isAgg3 Z (Fpg (gT hg328) fa_52_2 Z (Ldg (gT hg328) isAgg3 Z (Sg (gT hg328) Z (Pk hg328 Z (S Z (If h327 (fun hg329 h327 => ?_) (fun hg329 h327 => ?_))))))))
    ·
     refine KF hg329 Z (KF hg329 Z (KF hg329 Z (Pk hg329 Z (WO.nil ?_))))
     obtain rfl := Oi h327
     exact cutN (Lr [0])
    ·
     refine Fpg (gT hg329) fa_52_2 Z (Ldg (gT hg329) isAgg3 Z (Sg (gT hg329) Z (Pk hg329 Z (WO.nil ?_))))
     obtain rfl := Oi h327
     exact cutN (Lr [0])
  refine seqN (TC.le hle (Cn Z h321 (fun hc330 h321 => ?_) (fun hc330 h321 => ?_)))
  ·
   refine Rg (S Z (Nx (TC.ret (bloR (seqR (loopR h321 ?_))))))
   obtain rfl := hb318 _ (Oi h321).symm
   refine bloR (cutER (seqR ?_))
   obtain rfl := Oi h
   refine ⟨[(2, _)], _, _, ?_, ResOK.one Z Z, Z, Z⟩
   exact Lr []
  exact TC.skip (bloN (seqN (TC.region (S Z (S Z (S Z (WO.nil (loopN h321 (Lr [0])))))))))
 subst hbe
 refine seqN (TC.le hle (TC.seq (Rg (S Z (Nx (Bd h fun b411 h412 h => ?_))))))
 refine TC.cutE (b := b411) (fun sb411 => [(1, .ptr 0 0)]) (fun sb411 => [.cells 33 (Course.c a1)]) ?_ (fun sb411 env H hbe hle => ?_)
 ·
  refine TC.block ?_
  refine TC.loop (E := fun s414 => [(1, .ptr 0 0), (16, .int .i64 s414)]) (Hp := fun s414 => [.cells 33 (Course.c a1)]) h412 ?_ ?_
  ·
   exact Lr [0]
  intro s414 d415 h416 hb413
  refine TC.seq (Rg (S Z (Fp fa_33_7 Z (Ld isAgg28 Z (LnM runUnderlying28 Z (S Z (Nx (CnS Z h416 (fun hc417 h416 => ?_) (fun hc417 h416 => ?_)))))))))
  ·
   refine ExX (loopX h416 ?_)
   obtain rfl := hb413 _ (Oi h416).symm
   exact bloE (cutEN Z (Lr [0]))
  refine SkN (TC.seq (TC.block (Rg (Fp fa_33_7 Z (Ld isAgg28 Z (S Z (Bd h416 fun x418 hx418 h416 => Ix hx418 runUnderlying28 sizeOf117 Z ?_)))))))
  refine vX (.agg (Prize.c x418)) (OpV.loadA Z isAgg117 sizeOf117 Z Pts.rp Z Z) ?_
  refine vH (OpH.allocZ (v := (.agg [.int .i64 0, .int .i64 0, .int .i64 0, .int .i64 0])) zeroValue117 (ZR.agg (ZL.cons ZR.int (ZL.cons ZR.int (ZL.cons ZR.int (ZL.cons ZR.int ZL.nil)))))) ?_
  refine aV (.ptr 1 0) [_, .cells 117 [.int .i64 0, .int .i64 0, .int .i64 0, .int .i64 0]] Z Z ?_
  refine vU (OpU.store Z Z Z sizeOf117 Z Z Z Z Z Z Z) ?_
  refine WO.atH (H := [_, .cells 117 (Prize.c x418)]) Z ?_
  refine Nx (TC.seq (TC.seq (Bd h416 fun b426 h427 h416 => ?_)))
  refine TC.cut ([(1, .ptr 0 0), (16, .int .i64 s414), (17, .ptr 1 0), (260, .bool b426)]) ([.cells 33 (Course.c a1), .cells 117 (Prize.c x418)]) ?_ (fun env H hle => ?_)
  ·
   refine TC.region (Fp fa_117_0 Z (Ld isAgg3 Z (Fp fa_33_3 Z (Ld isAgg24 Z (LnM runUnderlying24 Z (S Z (Bd h427 fun r428 hr428 h427 => ?_)))))))
   refine WO.callD [] (OpC.fn call64 Z Z Z) (k_b _ _ _ _ _ hr428) ?_
   rintro _ _ ⟨rfl, rfl⟩
   refine aV (.bool r428) [_, _] Z Z ?_
   refine S Z (S Z (If h427 (fun hg429 h427 => ?_) (fun hg429 h427 => ?_)))
   ·
    refine KF hg429 Z (KF hg429 Z (KF hg429 Z (KF hg429 Z (KF hg429 Z (KF hg429 Z (KF hg429 Z (KF hg429 Z (Pk hg429 Z (S Z (KF Z Z (KF Z Z (KF Z Z (KF Z Z (S Z (S Z (KF Z Z (KF Z Z (KF Z Z (KF Z Z (S Z (WO.nil ?_)))))))))))))))))))))
    obtain rfl := Oi h427
    exact cutN (Lr [0, 1])
   ·
    refine Fpg (gT hg429) fa_117_1 Z (Ldg (gT hg429) isAgg3 Z (Fpg (gT hg429) fa_33_6 Z (Ldg (gT hg429) isAgg27 Z ?_)))
    refine vX (.int .i64 (a1.Categories.length : Int)) (OpV.lenM (e := Category.c) (l := a1.Categories) runUnderlying27) ?_ (gT hg429)
    refine Sg (gT hg429) Z (Bd h427 fun r430 hr430 h427 => ?_)
    refine WO.callD [] (OpC.fn call64 Z Z Z) (k_b _ _ _ _ _ hr430) ?_ (hg := (gT hg429))
    rintro _ _ ⟨rfl, rfl⟩
    refine aV (.bool r430) [_, _] Z Z ?_
    refine Sg (gT hg429) Z (Pk hg429 Z (S Z (If h427 (fun hg431 h427 => ?_) (fun hg431 h427 => ?_))))
    ·
     refine KF hg431 Z (KF hg431 Z (KF hg431 Z (KF hg431 Z (Pk hg431 Z (S Z (KF Z Z (KF Z Z (KF Z Z (KF Z Z (S Z (WO.nil ?_)))))))))))
     obtain rfl := Oi h427
     exact cutN (Lr [0, 1])
    ·
     refine Fpg (gT hg431) fa_117_2 Z (Ldg (gT hg431) isAgg3 Z (Bd h427 fun r432 hr432 h427 => ?_))
     refine WO.callD [] (OpC.fn call64 Z Z Z) (k_b _ _ _ _ _ hr432) ?_ (hg := (gT hg431))
     rintro _ _ ⟨rfl, rfl⟩
     refine aV (.bool r432) [_, _] Z Z ?_
     refine Sg (gT hg431) Z (Pk hg431 Z (S Z (If h427 (fun hg433 h427 => ?_) (fun hg433 h427 => ?_))))
     ·
      refine KF hg433 Z (KF hg433 Z (KF hg433 Z (KF hg433 Z (Pk hg433 Z (WO.nil ?_)))))
      obtain rfl := Oi h427
      exact cutN (Lr [0, 1])
     ·
      refine Fpg (gT hg433) fa_117_3 Z (Ldg (gT hg433) isAgg3 Z (Bd h427 fun r434 hr434 h427 => ?_))
      refine WO.callD [] (OpC.fn call64 Z Z Z) (k_b _ _ _ _ _ hr434) ?_ (hg := (gT hg433))
      rintro _ _ ⟨rfl, rfl⟩
      refine aV (.bool r434) [_, _] Z Z ?_
      refine Sg (gT hg433) Z (Pk hg433 Z (WO.nil ?_))
      obtain rfl := Oi h427
      exact cutN (Lr [0, 1])
  refine seqN (TC.le hle (Cn Z h416 (fun hc435 h416 => ?_) (fun hc435 h416 => ?_)))
  ·
   refine Rg (S Z (Nx (RtR (bloR (seqR (loopR h416 ?_))))))
   obtain rfl := hb413 _ (Oi h416).symm
   refine bloR (cutER (seqR ?_))
   obtain rfl := Oi h
   refine ⟨[(2, _)], _, _, ?_, ResOK.one Z Z, Z, Z⟩
   exact Lr []
  refine SkN (Rg (S Z (Nx (Bd h416 fun b455 h456 h416 => ?_))))
  refine TC.cutE (b := b455) (fun sb455 => [(1, .ptr 0 0), (16, .int .i64 s414)]) (fun sb455 => [.cells 33 (Course.c a1)]) ?_ (fun sb455 env H hbe hle => ?_)
  ·
   refine TC.block ?_
   refine TC.loop (E := fun s458 => [(1, .ptr 0 0), (16, .int .i64 s414), (17, .ptr 1 0), (18, .int .i64 s458)]) (Hp := fun s458 => [.cells 33 (Course.c a1), .cells 117 (Prize.c x418)]) h456 ?_ ?_
   ·
    exact Lr [0, 1]
   intro s458 d459 h460 hb457
   refine TC.seq (Rg (S Z (S Z (S Z (Nx (CnS Z h460 (fun hc461 h460 => ?_) (fun hc461 h460 => ?_)))))))
   ·
    refine ExX (loopX h460 ?_)
    obtain rfl := hb457 _ (Oi h460).symm
    exact bloE (cutEN Z (Lr [0]))
   refine SkN (TC.seq (TC.block (Rg (Fp fa_33_7 Z (Ld isAgg28 Z (S Z (Bd h460 fun x462 hx462 h460 => Ix hx462 runUnderlying28 sizeOf117 Z ?_)))))))
   refine vX (.agg (Prize.c x462)) (OpV.loadA Z isAgg117 sizeOf117 Z Pts.rp Z Z) ?_
   refine vH (OpH.allocZ (v := (.agg [.int .i64 0, .int .i64 0, .int .i64 0, .int .i64 0])) zeroValue117 (ZR.agg (ZL.cons ZR.int (ZL.cons ZR.int (ZL.cons ZR.int (ZL.cons ZR.int ZL.nil)))))) ?_
   refine aV (.ptr 2 0) [_, _, .cells 117 [.int .i64 0, .int .i64 0, .int .i64 0, .int .i64 0]] Z Z ?_
   refine vU (OpU.store Z Z Z sizeOf117 Z Z Z Z Z Z Z) ?_
   refine WO.atH (H := [_, _, .cells 117 (Prize.c x462)]) Z ?_
   refine Nx (TC.seq (Bd h460 fun b465 h466 h460 => ?_))
   refine TC.cut ([(1, .ptr 0 0), (16, .int .i64 s414), (17, .ptr 1 0), (18, .int .i64 s458), (289, .bool b465)]) ([.cells 33 (Course.c a1), .cells 117 (Prize.c x418)]) ?_ (fun env H hle => ?_)
   ·
    refine TC.region (Fp fa_117_0 Z (Ld isAgg3 Z (Fp fa_117_0 Z (Ld isAgg3 Z (S Z (S Z (If h466 (fun hg467 h466 => ?_) (fun hg467 h466 => ?_))))))))
    ·
     refine Fpg (gT hg467) fa_117_1 Z (Ldg (gT hg467) isAgg3 Z (Fpg (gT hg467) fa_117_1 Z (Ldg (gT hg467) isAgg3 Z (Sg (gT hg467) Z (Pk hg467 Z (S Z (If h466 (fun hg468 h466 => ?_) (fun hg468 h466 => ?_))))))))
     ·
      refine Fpg (gT hg468) fa_117_2 Z (Ldg (gT hg468) isAgg3 Z (Fpg (gT hg468) fa_117_2 Z (Ldg (gT hg468) isAgg3 Z (Sg (gT hg468) Z (Pk hg468 Z (WO.nil ?_))))))
      obtain rfl := Oi h466
      exact cutN (Lr [0, 1])
     ·
      refine KF hg468 Z (KF hg468 Z (KF hg468 Z (KF hg468 Z (KF hg468 Z (Pk hg468 Z (WO.nil ?_))))))
      obtain rfl := Oi h466
      exact cutN (Lr [0, 1])
    ·
     refine KF hg467 Z (KF hg467 Z (KF hg467 Z (KF hg467 Z (KF hg467 Z (Pk hg467 Z (S Z (KF Z Z (KF Z Z (KF Z Z (KF Z Z (KF Z Z (S Z (WO.nil ?_)))))))))))))
     obtain rfl := Oi h466
     exact cutN (Lr [0, 1])
   refine seqN (TC.le hle (Cn Z h460 (fun hc469 h460 => ?_) (fun hc469 h460 => ?_)))
   ·
    refine Rg (S Z (Nx (TC.ret (bloR (seqR (loopR h460 ?_))))))
    obtain rfl := hb457 _ (Oi h460).symm
    refine bloR (cutER (bloR (seqR (loopR h416 ?_))))
    obtain rfl := hb413 _ (Oi h416).symm
    refine bloR (cutER (seqR ?_))
    obtain rfl := Oi h
    refine ⟨[(2, _)], _, _, ?_, ResOK.one Z Z, Z, Z⟩
    exact Lr []
   exact TC.skip (bloN (seqN (TC.region (S Z (S Z (S Z (WO.nil (loopN h460 (Lr [0, 1])))))))))
  subst hbe
  exact bloN (seqN (TC.le hle (TC.region (S Z (S Z (S Z (WO.nil (loopN h416 (Lr [0])))))))))
 subst hbe
 refine seqN (TC.le hle (Rg (Fp fa_33_9 Z ?_)))
 refine vX (.agg (Faults.c a1.Faults)) (OpV.loadA Z isAgg31 sizeOf31 Z (Pts.cells Z Z) Z Z) ?_
 refine vH (OpH.allocZ (v := (.agg [.int .i64 0, .int .i64 0, .int .i64 0, .int .i64 0, .int .i64 0])) zeroValue31 (ZR.agg (ZL.cons ZR.int (ZL.cons ZR.int (ZL.cons ZR.int (ZL.cons ZR.int (ZL.cons ZR.int ZL.nil))))))) ?_
 refine aV (.ptr 1 0) [_, .cells 31 [.int .i64 0, .int .i64 0, .int .i64 0, .int .i64 0, .int .i64 0]] Z Z ?_
 refine vU (OpU.store Z Z Z sizeOf31 Z Z Z Z Z Z Z) ?_
 refine WO.atH (H := [_, .cells 31 (Faults.c a1.Faults)]) Z ?_
 refine Nx (TC.seq (Bd h fun b483 h484 h => ?_))
 refine TC.cut ([(2, .bool b483)]) ([]) ?_ (fun env H hle => ?_)
 ·
  refine TC.region (Fp fa_31_0 Z (Ld isAgg3 Z (Bd h484 fun r485 hr485 h484 => ?_)))
  refine WO.callD [] (OpC.fn call64 Z Z Z) (k_b _ _ _ _ _ hr485) ?_
  rintro _ _ ⟨rfl, rfl⟩
  refine aV (.bool r485) [_, _] Z Z ?_
  refine S Z (If h484 (fun hg486 h484 => ?_) (fun hg486 h484 => ?_))
  ·
   refine Fpg (gT hg486) fa_31_1 Z (Ldg (gT hg486) isAgg3 Z (Bd h484 fun r487 hr487 h484 => ?_))
   refine WO.callD [] (OpC.fn call64 Z Z Z) (k_b _ _ _ _ _ hr487) ?_ (hg := (gT hg486))
   rintro _ _ ⟨rfl, rfl⟩
   refine aV (.bool r487) [_, _] Z Z ?_
   refine Pk hg486 Z (S Z (If h484 (fun hg488 h484 => ?_) (fun hg488 h484 => ?_)))
   ·
    refine Fpg (gT hg488) fa_31_2 Z (Ldg (gT hg488) isAgg3 Z (Bd h484 fun r489 hr489 h484 => ?_))
    refine WO.callD [] (OpC.fn call64 Z Z Z) (k_b _ _ _ _ _ hr489) ?_ (hg := (gT hg488))
    rintro _ _ ⟨rfl, rfl⟩
    refine aV (.bool r489) [_, _] Z Z ?_
    refine Pk hg488 Z (S Z (If h484 (fun hg490 h484 => ?_) (fun hg490 h484 => ?_)))
    ·
     refine Fpg (gT hg490) fa_31_3 Z (Ldg (gT hg490) isAgg3 Z (Bd h484 fun r491 hr491 h484 => ?_))
     refine WO.callD [] (OpC.fn call64 Z Z Z) (k_b _ _ _ _ _ hr491) ?_ (hg := (gT hg490))
     rintro _ _ ⟨rfl, rfl⟩
     refine aV (.bool r491) [_, _] Z Z ?_
     refine Pk hg490 Z (S Z (If h484 (fun hg492 h484 => ?_) (fun hg492 h484 => ?_)))
     ·
      refine Fpg (gT hg492) fa_31_4 Z (Ldg (gT hg492) isAgg3 Z (Bd h484 fun r493 hr493 h484 => ?_))
      refine WO.callD [] (OpC.fn call64 Z Z Z) (k_b _ _ _ _ _ hr493) ?_ (hg := (gT hg492))
      rintro _ _ ⟨rfl, rfl⟩
      refine aV (.bool r493) [_, _] Z Z ?_
      refine Pk hg492 Z (S Z (If h484 (fun hg494 h484 => ?_) (fun hg494 h484 => ?_)))
      ·
       refine Fpg (gT hg494) fa_33_10 Z (Ldg (gT hg494) isAgg3 Z (Bd h484 fun r495 hr495 h484 => ?_))
       refine WO.callD [] (OpC.fn call64 Z Z Z) (k_b _ _ _ _ _ hr495) ?_ (hg := (gT hg494))
       rintro _ _ ⟨rfl, rfl⟩
       refine aV (.bool r495) [_, _] Z Z ?_
       refine Pk hg494 Z (S Z (If h484 (fun hg496 h484 => ?_) (fun hg496 h484 => ?_)))
       ·
        refine Fpg (gT hg496) fa_33_11 Z (Ldg (gT hg496) isAgg3 Z (Bd h484 fun r497 hr497 h484 => ?_))
        refine WO.callD [] (OpC.fn call64 Z Z Z) (k_b _ _ _ _ _ hr497) ?_ (hg := (gT hg496))
        rintro _ _ ⟨rfl, rfl⟩
        refine aV (.bool r497) [_, _] Z Z ?_
        refine Pk hg496 Z (S Z (WO.nil ?_))
        obtain rfl := Oi h484
        exact cutN (Lr [])
       ·
        refine KF hg496 Z (KF hg496 Z (KF hg496 Z (Pk hg496 Z (S Z (WO.nil ?_)))))
        obtain rfl := Oi h484
        exact cutN (Lr [])
      ·
       refine KF hg494 Z (KF hg494 Z (KF hg494 Z (Pk hg494 Z (S Z (KF Z Z (KF Z Z (KF Z Z (S Z (S Z (WO.nil ?_))))))))))
       obtain rfl := Oi h484
       exact cutN (Lr [])
     ·
      refine KF hg492 Z (KF hg492 Z (KF hg492 Z (Pk hg492 Z (S Z (KF Z Z (KF Z Z (KF Z Z (S Z (S Z (KF Z Z (KF Z Z (KF Z Z (S Z (S Z (WO.nil ?_)))))))))))))))
      obtain rfl := Oi h484
      exact cutN (Lr [])
    ·
     refine KF hg490 Z (KF hg490 Z (KF hg490 Z (Pk hg490 Z (S Z (KF Z Z (KF Z Z (KF Z Z (S Z (S Z (KF Z Z (KF Z Z (KF Z Z (S Z (S Z (KF Z Z (KF Z Z (KF Z Z (S Z (S Z (WO.nil ?_))))))))))))))))))))
     obtain rfl := Oi h484
     exact cutN (Lr [])
   ·
    refine KF hg488 Z (KF hg488 Z (KF hg488 Z (Pk hg488 Z (S Z (KF Z Z (KF Z Z (KF Z Z (S Z (S Z (KF Z Z (KF Z Z (KF Z Z (S Z (S Z (KF Z Z (KF Z Z (KF Z Z (S Z (S Z (KF Z Z (KF Z Z (KF Z Z (S Z (S Z (WO.nil ?_)))))))))))))))))))))))))
    obtain rfl := Oi h484
    exact cutN (Lr [])
  ·
   refine KF hg486 Z (KF hg486 Z (KF hg486 Z (Pk hg486 Z (S Z (KF Z Z (KF Z Z (KF Z Z (S Z (S Z (KF Z Z (KF Z Z (KF Z Z (S Z (S Z (KF Z Z (KF Z Z (KF Z Z (S Z (S Z (KF Z Z (KF Z Z (KF Z Z (S Z (S Z (KF Z Z (KF Z Z (KF Z Z (S Z (S Z (WO.nil ?_))))))))))))))))))))))))))))))
   obtain rfl := Oi h484
   exact cutN (Lr [])
 refine seqN (TC.le hle (TC.ret ?_))
 obtain rfl := Oi h
 refine ⟨[(2, _)], _, _, ?_, ResOK.one Z Z, Z, Z⟩
 exact Lr []
def F_dl (n : Nat) (a1 : Cond) (rec164 : Cond → Option Bool) (s51 : Int) : Option (Ctl Int (Ctl Unit Bool)) :=
  (bif decide (s51 < (a1.Parts.length : Int)) then (idx a1.Parts s51).bind fun x55 => (rec164 x55).bind fun r56 => (bif (!r56) then some (.done (.done false)) else some (.cont (IntKind.i64.wrap (s51 + 1)))) else some (.done (.cont ())))
def B_p (rec164 : Cond → Option Bool) (n : Nat) (a1 : Cond) : Option Bool :=
  (bif (a1.Kind == 1) then ((bif decide (1 ≤ a1.Var) then (bif decide (a1.Var ≤ 3) then (bif decide (0 ≤ a1.N) then (bif decide (a1.N ≤ 10000) then some ((a1.Parts.length : Int) == 0) else some false) else some false) else some false) else some false) : Option Bool).bind fun b6 => some b6 else ((bif (a1.Kind == 2) then some (a1.Kind == 2) else some (a1.Kind == 3)) : Option Bool).bind fun b13 => ((bif b13 then ((bif decide ((a1.Parts.length : Int) < 1) then some true else some (decide (16 < (a1.Parts.length : Int)))) : Option Bool).bind fun b28 => (bif b28 then some (.done false) else some (.cont ())) else (bif (a1.Kind == 4) then (bif ((a1.Parts.length : Int) != 1) then some (.done false) else some (.cont ())) else some (.done false))) : Option (Ctl Unit Bool)).bind fun b24 => match b24 with | .cont sb24 => (((bif (a1.Var != 0) then some true else some (a1.N != 0)) : Option Bool).bind fun b35 => (bif b35 then some false else (iter (F_dl n a1 rec164) n 0 : Option (Ctl Unit Bool)).bind fun b48 => match b48 with | .cont sb48 => (some true) | .done sb48 => some sb48)) | .done sb24 => some sb24)
theorem okB_stopwatchref07_parts (rec164 : Cond → Option Bool) (hrec164 : ∀ (a1 : Cond) (r : Bool), rec164 a1 = some r → C prog 169 [.agg (Cond.c a1)] [] (fun a H => a = .bool r ∧ H = [])) (n : Nat) (a1 : Cond) (r : Bool) (h : B_p rec164 n a1 = some r) :
    C prog 169 [.agg (Cond.c a1)] [] (fun a H => a = .bool r ∧ H = []) := by
 refine C.of_body func169 Z Z Z ?_
 refine Rg ?_
 refine vH (OpH.box Z Z Z Z Z) ?_
 refine aV (.ptr 0 0) [.cells 125 (Cond.c a1)] Z Z ?_
 refine S Z (Nx (TC.seq (Rg (Fp fa_125_0 Z (Ld isAgg3 Z (Nx (TC.block (Rg (S Z (S Z (Nx (Cn Z h (fun hc1 h => ?_) (fun hc1 h => ?_)))))))))))))
 ·
  refine TC.seq (Bd h fun b6 h7 h => ?_)
  refine TC.cut ([(2, .bool b6)]) ([]) ?_ (fun env H hle => ?_)
  ·
   refine TC.region (Fp fa_125_1 Z (Ld isAgg3 Z (S Z (S Z (If h7 (fun hg8 h7 => ?_) (fun hg8 h7 => ?_))))))
   ·
    refine Fpg (gT hg8) fa_125_1 Z (Ldg (gT hg8) isAgg3 Z (Sg (gT hg8) Z (Pk hg8 Z (S Z (If h7 (fun hg9 h7 => ?_) (fun hg9 h7 => ?_))))))
    ·
     refine Fpg (gT hg9) fa_125_2 Z (Ldg (gT hg9) isAgg3 Z (Sg (gT hg9) Z (Pk hg9 Z (S Z (If h7 (fun hg10 h7 => ?_) (fun hg10 h7 => ?_))))))
     ·
      refine Fpg (gT hg10) fa_125_2 Z (Ldg (gT hg10) isAgg3 Z (Sg (gT hg10) Z (Pk hg10 Z (S Z (If h7 (fun hg11 h7 => ?_) (fun hg11 h7 => ?_))))))
      ·
       refine Fpg (gT hg11) fa_125_3 Z (Ldg (gT hg11) isAgg123 Z ?_)
       refine vX (.int .i64 (a1.Parts.length : Int)) (OpV.lenM (e := Cond.enc) (l := a1.Parts) runUnderlying123) ?_ (gT hg11)
       refine Sg (gT hg11) Z (Pk hg11 Z (S Z (WO.nil ?_)))
       obtain rfl := Oi h7
       exact cutN (Lr [])
      ·
       refine KF hg11 Z (KF hg11 Z (KF hg11 Z (KF hg11 Z (Pk hg11 Z (S Z (WO.nil ?_))))))
       obtain rfl := Oi h7
       exact cutN (Lr [])
     ·
      refine KF hg10 Z (KF hg10 Z (KF hg10 Z (Pk hg10 Z (S Z (KF Z Z (KF Z Z (KF Z Z (KF Z Z (S Z (S Z (WO.nil ?_)))))))))))
      obtain rfl := Oi h7
      exact cutN (Lr [])
    ·
     refine KF hg9 Z (KF hg9 Z (KF hg9 Z (Pk hg9 Z (S Z (KF Z Z (KF Z Z (KF Z Z (S Z (S Z (KF Z Z (KF Z Z (KF Z Z (KF Z Z (S Z (S Z (WO.nil ?_))))))))))))))))
     obtain rfl := Oi h7
     exact cutN (Lr [])
   ·
    refine KF hg8 Z (KF hg8 Z (KF hg8 Z (Pk hg8 Z (S Z (KF Z Z (KF Z Z (KF Z Z (S Z (S Z (KF Z Z (KF Z Z (KF Z Z (S Z (S Z (KF Z Z (KF Z Z (KF Z Z (KF Z Z (S Z (S Z (WO.nil ?_)))))))))))))))))))))
    obtain rfl := Oi h7
    exact cutN (Lr [])
  refine seqN (TC.le hle (TC.ret (bloR (seqR ?_))))
  obtain rfl := Oi h
  refine ⟨[(2, _)], _, _, ?_, ResOK.one Z Z, Z, Z⟩
  exact Lr []
 refine TC.seq (Rg (S Z (S Z (Nx (Bd h fun b13 h14 h => ?_)))))
 refine TC.cut ([(1, .ptr 0 0), (5, .int .i64 a1.Kind), (32, .bool b13)]) ([.cells 125 (Cond.c a1)]) ?_ (fun env H hle => ?_)
 ·
  refine Cn Z h14 (fun hc15 h14 => ?_) (fun hc15 h14 => ?_)
  ·
   refine TC.skip ?_
   obtain rfl := Oi h14
   exact cutN (Lr [0])
  refine TC.region (S Z (S Z (WO.nil ?_)))
  obtain rfl := Oi h14
  exact cutN (Lr [0])
 refine seqN (TC.le hle (Bd h fun b24 h25 h => ?_))
 refine TC.cutE (b := b24) (fun sb24 => [(1, .ptr 0 0)]) (fun sb24 => [.cells 125 (Cond.c a1)]) ?_ (fun sb24 env H hb hle => ?_)
 ·
  refine Cn Z h25 (fun hc26 h25 => ?_) (fun hc26 h25 => ?_)
  ·
   refine TC.seq (Bd h25 fun b28 h29 h25 => ?_)
   refine TC.cut ([(1, .ptr 0 0), (44, .bool b28)]) ([.cells 125 (Cond.c a1)]) ?_ (fun env H hle => ?_)
   ·
    refine TC.region (Fp fa_125_3 Z (Ld isAgg123 Z (LnM runUnderlying123 Z (S Z (S Z (If h29 (fun hg30 h29 => ?_) (fun hg30 h29 => ?_)))))))
    ·
     refine KF hg30 Z (KF hg30 Z (KF hg30 Z (KF hg30 Z (Pk hg30 Z (WO.nil ?_)))))
     obtain rfl := Oi h29
     exact cutN (Lr [0])
    ·
     refine Fpg (gT hg30) fa_125_3 Z (Ldg (gT hg30) isAgg123 Z ?_)
     refine vX (.int .i64 (a1.Parts.length : Int)) (OpV.lenM (e := Cond.enc) (l := a1.Parts) runUnderlying123) ?_ (gT hg30)
     refine Sg (gT hg30) Z (Pk hg30 Z (WO.nil ?_))
     obtain rfl := Oi h29
     exact cutN (Lr [0])
   refine seqN (TC.le hle (Cn Z h25 (fun hc31 h25 => ?_) (fun hc31 h25 => ?_)))
   ·
    refine Rg (S Z (Nx (TC.ret ?_)))
    obtain rfl := Oi h25
    refine cutER (bloR (seqR ?_))
    obtain rfl := Oi h
    refine ⟨[(2, _)], _, _, ?_, ResOK.one Z Z, Z, Z⟩
    exact Lr []
   refine TC.skip ?_
   obtain rfl := Oi h25
   exact cutEN Z (Lr [0])
  refine Rg (S Z (S Z (Nx (CnS Z h25 (fun hc32 h25 => ?_) (fun hc32 h25 => ?_)))))
  ·
   refine Rg (S Z (Nx (TC.ret ?_)))
   obtain rfl := Oi h25
   refine cutER (bloR (seqR ?_))
   obtain rfl := Oi h
   refine ⟨[(2, _)], _, _, ?_, ResOK.one Z Z, Z, Z⟩
   exact Lr []
  refine Rg (Fp fa_125_3 Z (Ld isAgg123 Z (LnM runUnderlying123 Z (S Z (Nx (Cn Z h25 (fun hc33 h25 => ?_) (fun hc33 h25 => ?_)))))))
  ·
   refine Rg (S Z (Nx (TC.ret ?_)))
   obtain rfl := Oi h25
   refine cutER (bloR (seqR ?_))
   obtain rfl := Oi h
   refine ⟨[(2, _)], _, _, ?_, ResOK.one Z Z, Z, Z⟩
   exact Lr []
  refine TC.skip ?_
  obtain rfl := Oi h25
  exact cutEN Z (Lr [0])
 subst hb
 refine bloN (seqN (TC.le hle (TC.seq (TC.seq (Bd h fun b35 h36 h => ?_)))))
 refine TC.cut ([(1, .ptr 0 0), (58, .bool b35)]) ([.cells 125 (Cond.c a1)]) ?_ (fun env H hle => ?_)
 ·
  refine TC.region (Fp fa_125_1 Z (Ld isAgg3 Z (S Z (S Z (If h36 (fun hg37 h36 => ?_) (fun hg37 h36 => ?_))))))
  ·
   refine KF hg37 Z (KF hg37 Z (KF hg37 Z (Pk hg37 Z (WO.nil ?_))))
   obtain rfl := Oi h36
   exact cutN (Lr [0])
  ·
   refine Fpg (gT hg37) fa_125_2 Z (Ldg (gT hg37) isAgg3 Z (Sg (gT hg37) Z (Pk hg37 Z (WO.nil ?_))))
   obtain rfl := Oi h36
   exact cutN (Lr [0])
 refine seqN (TC.le hle (Cn Z h (fun hc38 h => ?_) (fun hc38 h => ?_)))
 ·
  refine Rg (S Z (Nx (RtR ?_)))
  obtain rfl := Oi h
  refine ⟨[(2, _)], _, _, ?_, ResOK.one Z Z, Z, Z⟩
  exact Lr []
 refine SkN (TC.seq (Rg (S Z (Nx (Bd h fun b48 h49 h => ?_)))))
 refine TC.cutE (b := b48) (fun sb48 => []) (fun sb48 => []) ?_ (fun sb48 env H hbe hle => ?_)
 ·
  refine TC.block ?_
  refine TC.loop (E := fun s51 => [(1, .ptr 0 0), (3, .int .i64 s51)]) (Hp := fun s51 => [.cells 125 (Cond.c a1)]) h49 ?_ ?_
  ·
   exact Lr [0]
  intro s51 d52 h53 hb50
  refine TC.seq (Rg (S Z (Fp fa_125_3 Z (Ld isAgg123 Z (LnM runUnderlying123 Z (S Z (Nx (CnS Z h53 (fun hc54 h53 => ?_) (fun hc54 h53 => ?_)))))))))
  ·
   refine ExX (loopX h53 ?_)
   obtain rfl := hb50 _ (Oi h53).symm
   exact bloE (cutEN Z (Lr []))
  refine SkN (TC.seq (TC.block (Rg (Fp fa_125_3 Z (Ld isAgg123 Z (S Z (Bd h53 fun x55 hx55 h53 => ?_)))))))
  refine vX (.rp [.int .i64 x55.Kind, .int .i64 x55.Var, .int .i64 x55.N, .rsl 4 (List.map Cond.enc x55.Parts)]) (OpV.ixME (e := Cond.enc) hx55 (Cond.enc_eq x55) runUnderlying123 sizeOf125) ?_
  refine vX (.agg (Cond.c x55)) (OpV.loadA Z isAgg125 sizeOf125 Z Pts.rp Z Z) ?_
  refine Bd h53 fun r56 hr56 h53 => ?_
  refine WO.callD [] (OpC.fn call169 Z Z Z) (hrec164 _ _ hr56) ?_
  rintro _ _ ⟨rfl, rfl⟩
  refine aV (.bool r56) [_] Z Z ?_
  refine S Z (Nx (Cn Z h53 (fun hc57 h53 => ?_) (fun hc57 h53 => ?_)))
  ·
   refine Rg (S Z (Nx (TC.ret (bloR (seqR (loopR h53 ?_))))))
   obtain rfl := hb50 _ (Oi h53).symm
   refine bloR (cutER (seqR ?_))
   obtain rfl := Oi h
   refine ⟨[(2, _)], _, _, ?_, ResOK.one Z Z, Z, Z⟩
   exact Lr []
  exact TC.skip (bloN (seqN (TC.region (S Z (S Z (S Z (WO.nil (loopN h53 (Lr [0])))))))))
 subst hbe
 refine seqN (TC.le hle (Rg (S Z (Nx (TC.ret ?_)))))
 obtain rfl := Oi h
 refine ⟨[(2, _)], _, _, ?_, ResOK.one Z Z, Z, Z⟩
 exact Lr []
def F_p : Nat → Cond → Option Bool
  | 0 => fun _ => none
  | n + 1 => B_p (F_p n) n
theorem k_p (n : Nat) : ∀ (a1 : Cond) (r : Bool), F_p n a1 = some r → C prog 169 [.agg (Cond.c a1)] [] (fun a H => a = .bool r ∧ H = []) := by
  induction n with
  | zero => intro a1 r h; cases h
  | succ n ih => intro a1 r h; exact okB_stopwatchref07_parts _ ih n a1 r h
def F_aj (n : Nat) (a1 : Cond) : Option Int :=
  (F_h n a1 0).bind fun r1 => (bif decide (256 < r1) then some 2 else (F_p n a1).bind fun r3 => (bif (!r3) then some 71 else some 0))
theorem k_aj (n : Nat) (a1 : Cond) (r : Int) (h : F_aj n a1 = some r) :
    C prog 137 [.agg (Cond.c a1)] [] (fun a H => a = .int .i64 r ∧ H = []) := by
 refine C.of_body func137 Z Z Z ?_
 refine Rg ?_
 refine vH (OpH.box Z Z Z Z Z) ?_
 refine aV (.ptr 0 0) [.cells 125 (Cond.c a1)] Z Z ?_
 refine S Z (Nx (TC.seq (Rg ?_)))
 refine vX (.agg (Cond.c a1)) (OpV.loadA Z isAgg125 sizeOf125 Z (Pts.cells Z Z) Z Z) ?_
 refine Bd h fun r1 hr1 h => ?_
 refine WO.callD [] (OpC.fn call72 Z Z Z) (k_h _ _ _ _ hr1) ?_
 rintro _ _ ⟨rfl, rfl⟩
 refine aV (.int .i64 r1) [_] Z Z ?_
 refine S Z (Nx (Cn Z h (fun hc2 h => ?_) (fun hc2 h => ?_)))
 ·
  refine Rg (S Z (Nx (RtR ?_)))
  obtain rfl := Oi h
  refine ⟨[(2, _)], _, _, ?_, ResOK.one Z Z, Z, Z⟩
  exact Lr []
 refine SkN (TC.seq (Rg ?_))
 refine vX (.agg (Cond.c a1)) (OpV.loadA Z isAgg125 sizeOf125 Z (Pts.cells Z Z) Z Z) ?_
 refine Bd h fun r3 hr3 h => ?_
 refine WO.callD [] (OpC.fn call169 Z Z Z) (k_p _ _ _ hr3) ?_
 rintro _ _ ⟨rfl, rfl⟩
 refine aV (.bool r3) [_] Z Z ?_
 refine S Z (Nx (Cn Z h (fun hc4 h => ?_) (fun hc4 h => ?_)))
 ·
  refine Rg (S Z (Nx (RtR ?_)))
  obtain rfl := Oi h
  refine ⟨[(2, _)], _, _, ?_, ResOK.one Z Z, Z, Z⟩
  exact Lr []
 refine SkN (Rg (S Z (Nx (TC.ret ?_))))
 obtain rfl := Oi h
 refine ⟨[(2, _)], _, _, ?_, ResOK.one Z Z, Z, Z⟩
 exact Lr []
def F_fr (n : Nat) (a1 : List Step) (rec162 : (List Step) → Option Bool) (s141 : Int) : Option (Ctl Int (Ctl Unit Bool)) :=
  (bif decide (s141 < (a1.length : Int)) then (idx a1 s141).bind fun x145 => ((bif (x145.Kind == 1) then ((bif decide (x145.By < 1) then some true else (bif decide (5 < x145.By) then some true else (F_af n x145.Cond).bind fun r190 => (bif (!r190) then some true else (bif ((x145.Then.length : Int) != 0) then some true else some ((x145.Else.length : Int) != 0))))) : Option Bool).bind fun b186 => (bif b186 then some (.done (.done (.done false))) else some (.cont ())) else (bif (x145.Kind == 2) then ((bif (x145.By != 0) then some true else (F_aj n x145.Cond).bind fun r205 => (bif (r205 != 0) then some true else (bif ((x145.Then.length : Int) == 0) then some true else (rec162 x145.Then).bind fun r208 => (bif (!r208) then some true else (rec162 x145.Else).bind fun r210 => some (!r210))))) : Option Bool).bind fun b202 => (bif b202 then some (.done (.done (.done false))) else some (.cont ())) else some (.done (.done (.done false))))) : Option (Ctl Unit (Ctl Int (Ctl Unit Bool)))).bind fun b178 => match b178 with | .cont sb178 => (some (.cont (IntKind.i64.wrap (s141 + 1)))) | .done sb178 => some sb178 else some (.done (.cont ())))
def B_e (rec162 : (List Step) → Option Bool) (n : Nat) (a1 : List Step) : Option Bool :=
  (iter (F_fr n a1 rec162) n 0 : Option (Ctl Unit Bool)).bind fun b138 => match b138 with | .cont sb138 => (some true) | .done sb138 => some sb138
theorem okB_stopwatchref07_steps (rec162 : (List Step) → Option Bool) (hrec162 : ∀ (a1 : List Step) (r : Bool), rec162 a1 = some r → C prog 67 [.rsl 8 (List.map Step.enc a1)] [] (fun a H => a = .bool r ∧ H = [])) (n : Nat) (a1 : List Step) (r : Bool) (h : B_e rec162 n a1 = some r) :
    C prog 67 [.rsl 8 (List.map Step.enc a1)] [] (fun a H => a = .bool r ∧ H = []) := by
 refine C.of_body func67 Z Z Z ?_
 refine Rg (S Z (Nx (TC.seq (Rg (S Z (Nx (Bd h fun b138 h139 h => ?_)))))))
 refine TC.cutE (b := b138) (fun sb138 => []) (fun sb138 => []) ?_ (fun sb138 env H hbe hle => ?_)
 ·
  refine TC.block ?_
  refine TC.loop (E := fun s141 => [(0, .rsl 8 (List.map Step.enc a1)), (3, .int .i64 s141)]) (Hp := fun s141 => []) h139 ?_ ?_
  ·
   exact Lr []
  intro s141 d142 h143 hb140
  refine TC.seq (Rg (S Z (S Z (LnM runUnderlying29 Z (S Z (Nx (CnS Z h143 (fun hc144 h143 => ?_) (fun hc144 h143 => ?_))))))))
  ·
   refine ExX (loopX h143 ?_)
   obtain rfl := hb140 _ (Oi h143).symm
   exact bloE (cutEN Z (Lr []))
  refine SkN (TC.seq (TC.block (Rg (S Z (S Z (Bd h143 fun x145 hx145 h143 => ?_))))))
  refine vX (.rp [.int .i64 x145.Kind, .int .i64 x145.By, .int .i64 x145.Cond.Kind, .int .i64 x145.Cond.Var, .int .i64 x145.Cond.N, .rsl 4 (List.map Cond.enc x145.Cond.Parts), .rsl 8 (List.map Step.enc x145.Then), .rsl 8 (List.map Step.enc x145.Else)]) (OpV.ixME (e := Step.enc) hx145 (Step.enc_eq x145) runUnderlying29 sizeOf127) ?_
  refine vX (.agg (Step.c x145)) (OpV.loadA Z isAgg127 sizeOf127 Z Pts.rp Z Z) ?_
  refine vH (OpH.allocZ (v := (.agg [.int .i64 0, .int .i64 0, .int .i64 0, .int .i64 0, .int .i64 0, .rsl 4 (List.map Cond.enc []), .rsl 8 (List.map Step.enc []), .rsl 8 (List.map Step.enc [])])) zeroValue127 (ZR.agg (ZL.cons ZR.int (ZL.cons ZR.int (ZL.cons ZR.int (ZL.cons ZR.int (ZL.cons ZR.int (ZL.cons ZR.rsl (ZL.cons ZR.rsl (ZL.cons ZR.rsl ZL.nil)))))))))) ?_
  refine aV (.ptr 0 0) [.cells 127 [.int .i64 0, .int .i64 0, .int .i64 0, .int .i64 0, .int .i64 0, .rsl 4 (List.map Cond.enc []), .rsl 8 (List.map Step.enc []), .rsl 8 (List.map Step.enc [])]] Z Z ?_
  refine vU (OpU.store Z Z Z sizeOf127 Z Z Z Z Z Z Z) ?_
  refine WO.atH (H := [.cells 127 (Step.c x145)]) Z ?_
  refine Nx (Rg (Fp fa_127_0 Z (Ld isAgg3 Z (Nx (TC.block (Rg (S Z (S Z (Nx (Bd h143 fun b178 h179 h143 => ?_))))))))))
  refine TC.cutE (b := b178) (fun sb178 => [(0, .rsl 8 (List.map Step.enc a1)), (3, .int .i64 s141)]) (fun sb178 => []) ?_ (fun sb178 env H hb hle => ?_)
  ·
   refine Cn Z h179 (fun hc180 h179 => ?_) (fun hc180 h179 => ?_)
   ·
    refine TC.seq (Bd h179 fun b186 h187 h179 => ?_)
    refine TC.cut ([(0, .rsl 8 (List.map Step.enc a1)), (3, .int .i64 s141), (44, .bool b186)]) ([]) ?_ (fun env H hle => ?_)
    ·
     refine TC.region (Fp fa_127_1 Z (Ld isAgg3 Z (S Z (S Z (If h187 (fun hg188 h187 => ?_) (fun hg188 h187 => ?_))))))
     ·
      refine KF hg188 Z (KF hg188 Z (KF hg188 Z (Pk hg188 Z (S Z (KF Z Z (KF Z Z (KF Z Z (KF Z Z (S Z (S Z (KF Z Z (KF Z Z (KF Z Z (KF Z Z (S Z (S Z (KF Z Z (KF Z Z (KF Z Z (KF Z Z (S Z (WO.nil ?_))))))))))))))))))))))
      obtain rfl := Oi h187
      exact cutN (Lr [])
     ·
      refine Fpg (gT hg188) fa_127_1 Z (Ldg (gT hg188) isAgg3 Z (Sg (gT hg188) Z (Pk hg188 Z (S Z (If h187 (fun hg189 h187 => ?_) (fun hg189 h187 => ?_))))))
      ·
       refine KF hg189 Z (KF hg189 Z (KF hg189 Z (KF hg189 Z (Pk hg189 Z (S Z (KF Z Z (KF Z Z (KF Z Z (KF Z Z (S Z (S Z (KF Z Z (KF Z Z (KF Z Z (KF Z Z (S Z (WO.nil ?_)))))))))))))))))
       obtain rfl := Oi h187
       exact cutN (Lr [])
      ·
       refine Fpg (gT hg189) fa_127_2 Z ?_
       refine vX (.agg (Cond.c x145.Cond)) (OpV.loadA Z isAgg125 sizeOf125 Z (Pts.cells Z Z) Z Z) ?_ (gT hg189)
       refine Bd h187 fun r190 hr190 h187 => ?_
       refine WO.callD [] (OpC.fn call71 Z Z Z) (k_af _ _ _ hr190) ?_ (hg := (gT hg189))
       rintro _ _ ⟨rfl, rfl⟩
       refine aV (.bool r190) [_] Z Z ?_
       refine Sg (gT hg189) Z (Pk hg189 Z (S Z (If h187 (fun hg191 h187 => ?_) (fun hg191 h187 => ?_))))
       ·
        refine KF hg191 Z (KF hg191 Z (KF hg191 Z (KF hg191 Z (Pk hg191 Z (S Z (KF Z Z (KF Z Z (KF Z Z (KF Z Z (S Z (WO.nil ?_)))))))))))
        obtain rfl := Oi h187
        exact cutN (Lr [])
       ·
        refine Fpg (gT hg191) fa_127_3 Z (Ldg (gT hg191) isAgg29 Z ?_)
        refine vX (.int .i64 (x145.Then.length : Int)) (OpV.lenM (e := Step.enc) (l := x145.Then) runUnderlying29) ?_ (gT hg191)
        refine Sg (gT hg191) Z (Pk hg191 Z (S Z (If h187 (fun hg192 h187 => ?_) (fun hg192 h187 => ?_))))
        ·
         refine KF hg192 Z (KF hg192 Z (KF hg192 Z (KF hg192 Z (Pk hg192 Z (WO.nil ?_)))))
         obtain rfl := Oi h187
         exact cutN (Lr [])
        ·
         refine Fpg (gT hg192) fa_127_4 Z (Ldg (gT hg192) isAgg29 Z ?_)
         refine vX (.int .i64 (x145.Else.length : Int)) (OpV.lenM (e := Step.enc) (l := x145.Else) runUnderlying29) ?_ (gT hg192)
         refine Sg (gT hg192) Z (Pk hg192 Z (WO.nil ?_))
         obtain rfl := Oi h187
         exact cutN (Lr [])
    refine seqN (TC.le hle (Cn Z h179 (fun hc193 h179 => ?_) (fun hc193 h179 => ?_)))
    ·
     refine Rg (S Z (Nx (TC.ret ?_)))
     obtain rfl := Oi h179
     refine cutER (bloR (bloR (seqR (loopR h143 ?_))))
     obtain rfl := hb140 _ (Oi h143).symm
     refine bloR (cutER (seqR ?_))
     obtain rfl := Oi h
     refine ⟨[(2, _)], _, _, ?_, ResOK.one Z Z, Z, Z⟩
     exact Lr []
    refine TC.skip ?_
    obtain rfl := Oi h179
    exact cutEN Z (Lr [])
   refine Rg (S Z (S Z (Nx (CnS Z h179 (fun hc194 h179 => ?_) (fun hc194 h179 => ?_)))))
   ·
    refine Rg (S Z (Nx (TC.ret ?_)))
    obtain rfl := Oi h179
    refine cutER (bloR (bloR (seqR (loopR h143 ?_))))
    obtain rfl := hb140 _ (Oi h143).symm
    refine bloR (cutER (seqR ?_))
    obtain rfl := Oi h
    refine ⟨[(2, _)], _, _, ?_, ResOK.one Z Z, Z, Z⟩
    exact Lr []
   refine TC.seq (Bd h179 fun b202 h203 h179 => ?_)
   refine TC.cut ([(0, .rsl 8 (List.map Step.enc a1)), (3, .int .i64 s141), (73, .bool b202)]) ([]) ?_ (fun env H hle => ?_)
   ·
    refine TC.region (Fp fa_127_1 Z (Ld isAgg3 Z (S Z (S Z (If h203 (fun hg204 h203 => ?_) (fun hg204 h203 => ?_))))))
    ·
     refine KF hg204 Z (KF hg204 Z (KF hg204 Z (KF hg204 Z (Pk hg204 Z (S Z (KF Z Z (KF Z Z (KF Z Z (KF Z Z (S Z (S Z (KF Z Z (KF Z Z (KF Z Z (KF Z Z (S Z (S Z (KF Z Z (KF Z Z (KF Z Z (KF Z Z (S Z (WO.nil ?_)))))))))))))))))))))))
     obtain rfl := Oi h203
     exact cutN (Lr [])
    ·
     refine Fpg (gT hg204) fa_127_2 Z ?_
     refine vX (.agg (Cond.c x145.Cond)) (OpV.loadA Z isAgg125 sizeOf125 Z (Pts.cells Z Z) Z Z) ?_ (gT hg204)
     refine Bd h203 fun r205 hr205 h203 => ?_
     refine WO.callD [] (OpC.fn call137 Z Z Z) (k_aj _ _ _ hr205) ?_ (hg := (gT hg204))
     rintro _ _ ⟨rfl, rfl⟩
     refine aV (.int .i64 r205) [_] Z Z ?_
     refine Sg (gT hg204) Z (Pk hg204 Z (S Z (If h203 (fun hg206 h203 => ?_) (fun hg206 h203 => ?_))))
     ·
      refine KF hg206 Z (KF hg206 Z (KF hg206 Z (KF hg206 Z (Pk hg206 Z (S Z (KF Z Z (KF Z Z (KF Z Z (KF Z Z (S Z (S Z (KF Z Z (KF Z Z (KF Z Z (KF Z Z (S Z (WO.nil ?_)))))))))))))))))
      obtain rfl := Oi h203
      exact cutN (Lr [])
     ·
      refine Fpg (gT hg206) fa_127_3 Z (Ldg (gT hg206) isAgg29 Z ?_)
      refine vX (.int .i64 (x145.Then.length : Int)) (OpV.lenM (e := Step.enc) (l := x145.Then) runUnderlying29) ?_ (gT hg206)
      refine Sg (gT hg206) Z (Pk hg206 Z (S Z (If h203 (fun hg207 h203 => ?_) (fun hg207 h203 => ?_))))
      ·
       refine KF hg207 Z (KF hg207 Z (KF hg207 Z (KF hg207 Z (Pk hg207 Z (S Z (KF Z Z (KF Z Z (KF Z Z (KF Z Z (S Z (WO.nil ?_)))))))))))
       obtain rfl := Oi h203
       exact cutN (Lr [])
      ·
       refine Fpg (gT hg207) fa_127_3 Z (Ldg (gT hg207) isAgg29 Z (Bd h203 fun r208 hr208 h203 => ?_))
       refine WO.callD [] (OpC.fn call67 Z Z Z) (hrec162 _ _ hr208) ?_ (hg := (gT hg207))
       rintro _ _ ⟨rfl, rfl⟩
       refine aV (.bool r208) [_] Z Z ?_
       refine Sg (gT hg207) Z (Pk hg207 Z (S Z (If h203 (fun hg209 h203 => ?_) (fun hg209 h203 => ?_))))
       ·
        refine KF hg209 Z (KF hg209 Z (KF hg209 Z (KF hg209 Z (Pk hg209 Z (WO.nil ?_)))))
        obtain rfl := Oi h203
        exact cutN (Lr [])
       ·
        refine Fpg (gT hg209) fa_127_4 Z (Ldg (gT hg209) isAgg29 Z (Bd h203 fun r210 hr210 h203 => ?_))
        refine WO.callD [] (OpC.fn call67 Z Z Z) (hrec162 _ _ hr210) ?_ (hg := (gT hg209))
        rintro _ _ ⟨rfl, rfl⟩
        refine aV (.bool r210) [_] Z Z ?_
        refine Sg (gT hg209) Z (Pk hg209 Z (WO.nil ?_))
        obtain rfl := Oi h203
        exact cutN (Lr [])
   refine seqN (TC.le hle (Cn Z h179 (fun hc211 h179 => ?_) (fun hc211 h179 => ?_)))
   ·
    refine Rg (S Z (Nx (TC.ret ?_)))
    obtain rfl := Oi h179
    refine cutER (bloR (bloR (seqR (loopR h143 ?_))))
    obtain rfl := hb140 _ (Oi h143).symm
    refine bloR (cutER (seqR ?_))
    obtain rfl := Oi h
    refine ⟨[(2, _)], _, _, ?_, ResOK.one Z Z, Z, Z⟩
    exact Lr []
   refine TC.skip ?_
   obtain rfl := Oi h179
   exact cutEN Z (Lr [])
  subst hb
  exact bloN (bloN (seqN (TC.le hle (TC.region (S Z (S Z (S Z (WO.nil (loopN h143 (Lr []))))))))))
 subst hbe
 refine seqN (TC.le hle (Rg (S Z (Nx (TC.ret ?_)))))
 obtain rfl := Oi h
 refine ⟨[(2, _)], _, _, ?_, ResOK.one Z Z, Z, Z⟩
 exact Lr []
def F_e : Nat → (List Step) → Option Bool
  | 0 => fun _ => none
  | n + 1 => B_e (F_e n) n
theorem k_e (n : Nat) : ∀ (a1 : List Step) (r : Bool), F_e n a1 = some r → C prog 67 [.rsl 8 (List.map Step.enc a1)] [] (fun a H => a = .bool r ∧ H = []) := by
  induction n with
  | zero => intro a1 r h; cases h
  | succ n ih => intro a1 r h; exact okB_stopwatchref07_steps _ ih n a1 r h
def F_bt (n : Nat) (a1 : List Step) : Option Int :=
  (F_k n a1 0).bind fun r1 => ((bif decide (64 < r1.1) then some true else some (decide (256 < r1.2))) : Option Bool).bind fun b3 => (bif b3 then some 2 else ((bif ((a1.length : Int) == 0) then some true else (F_e n a1).bind fun r12 => some (!r12)) : Option Bool).bind fun b9 => (bif b9 then some 71 else some 0))
theorem k_bt (n : Nat) (a1 : List Step) (r : Int) (h : F_bt n a1 = some r) :
    C prog 40 [.rsl 8 (List.map Step.enc a1)] [] (fun a H => a = .int .i64 r ∧ H = []) := by
 refine C.of_body func40 Z Z Z ?_
 refine Rg (S Z (Nx (Rg (S Z (Bd h fun r1 hr1 h => ?_)))))
 refine WO.callD [] (OpC.fn call42 Z Z Z) (k_k _ _ _ _ hr1) ?_
 rintro _ _ ⟨rfl, rfl⟩
 refine aV (.tup [.int .i64 r1.1, .int .i64 r1.2]) [] Z Z ?_
 refine S Z (S Z (S Z (S Z (S Z (Nx (TC.seq (TC.seq (Bd h fun b3 h4 h => ?_))))))))
 refine TC.cut ([(0, .rsl 8 (List.map Step.enc a1)), (15, .bool b3)]) ([]) ?_ (fun env H hle => ?_)
 ·
  refine TC.region (S Z (S Z (S Z (If h4 (fun hg5 h4 => ?_) (fun hg5 h4 => ?_)))))
  ·
   refine KF hg5 Z (KF hg5 Z (Pk hg5 Z (WO.nil ?_)))
   obtain rfl := Oi h4
   exact cutN (Lr [])
  ·
   refine Sg (gT hg5) Z (Sg (gT hg5) Z (Pk hg5 Z (WO.nil ?_)))
   obtain rfl := Oi h4
   exact cutN (Lr [])
 refine seqN (TC.le hle (Cn Z h (fun hc6 h => ?_) (fun hc6 h => ?_)))
 ·
  refine Rg (S Z (Nx (RtR ?_)))
  obtain rfl := Oi h
  refine ⟨[(2, _)], _, _, ?_, ResOK.one Z Z, Z, Z⟩
  exact Lr []
 refine SkN (TC.seq (TC.seq (Bd h fun b9 h10 h => ?_)))
 refine TC.cut ([(23, .bool b9)]) ([]) ?_ (fun env H hle => ?_)
 ·
  refine TC.region (S Z (LnM runUnderlying29 Z (S Z (S Z (If h10 (fun hg11 h10 => ?_) (fun hg11 h10 => ?_))))))
  ·
   refine KF hg11 Z (KF hg11 Z (KF hg11 Z (Pk hg11 Z (WO.nil ?_))))
   obtain rfl := Oi h10
   exact cutN (Lr [])
  ·
   refine Sg (gT hg11) Z (Bd h10 fun r12 hr12 h10 => ?_)
   refine WO.callD [] (OpC.fn call67 Z Z Z) (k_e _ _ _ hr12) ?_ (hg := (gT hg11))
   rintro _ _ ⟨rfl, rfl⟩
   refine aV (.bool r12) [] Z Z ?_
   refine Sg (gT hg11) Z (Pk hg11 Z (WO.nil ?_))
   obtain rfl := Oi h10
   exact cutN (Lr [])
 refine seqN (TC.le hle (Cn Z h (fun hc13 h => ?_) (fun hc13 h => ?_)))
 ·
  refine Rg (S Z (Nx (RtR ?_)))
  obtain rfl := Oi h
  refine ⟨[(2, _)], _, _, ?_, ResOK.one Z Z, Z, Z⟩
  exact Lr []
 refine SkN (Rg (S Z (Nx (TC.ret ?_))))
 obtain rfl := Oi h
 refine ⟨[(2, _)], _, _, ?_, ResOK.one Z Z, Z, Z⟩
 exact Lr []
def F_dm (n : Nat) (a1 : List Part) (s167 : (List Int) × Int) (r219 : List Int) (s240 : (List Int) × Int) : Option (Ctl ((List Int) × Int) (List Int)) :=
  ((idx a1 s167.2).bind fun x247 => (bif decide (s240.2 < x247.Laps) then some (decide ((s240.1.length : Int) ≤ 256)) else some false) : Option Bool).bind fun b245 => (bif b245 then (app s240.1 r219).bind fun l250 => some (.cont (l250, IntKind.i64.wrap (s240.2 + 1))) else some (.done s240.1))
def F_eg (n : Nat) (a1 : List Part) (rec166 : (List Part) → Option (List Int)) (s167 : (List Int) × Int) : Option (Ctl ((List Int) × Int) (List Int)) :=
  ((bif decide (s167.2 < (a1.length : Int)) then some (decide ((s167.1.length : Int) ≤ 256)) else some false) : Option Bool).bind fun b171 => (bif b171 then ((idx a1 s167.2).bind fun x214 => (bif (x214.Laps == 0) then (idx a1 s167.2).bind fun x216 => (app s167.1 [x216.Mat]).bind fun l217 => some l217 else (idx a1 s167.2).bind fun x218 => (rec166 x218.Parts).bind fun r219 => (iter (F_dm n a1 s167 r219) n (s167.1, 0) : Option (List Int)).bind fun b237 => some b237) : Option (List Int)).bind fun b212 => some (.cont (b212, IntKind.i64.wrap (s167.2 + 1))) else some (.done s167.1))
def B_t (rec166 : (List Part) → Option (List Int)) (n : Nat) (a1 : List Part) : Option (List Int) :=
  (iter (F_eg n a1 rec166) n (([] : List Int), 0) : Option (List Int)).bind fun b164 => some b164
theorem okB_stopwatchref07_Expand (rec166 : (List Part) → Option (List Int)) (hrec166 : ∀ (a1 : List Part) (r : List Int), rec166 a1 = some r → C prog 68 [.rsl 3 (List.map Part.enc a1)] [] (fun a H => a = .osl 0 0 r.length 1 ∧ H = [.row 3 1 (List.map (encI .i64) r)])) (n : Nat) (a1 : List Part) (r : List Int) (h : B_t rec166 n a1 = some r) :
    C prog 68 [.rsl 3 (List.map Part.enc a1)] [] (fun a H => a = .osl 0 0 r.length 1 ∧ H = [.row 3 1 (List.map (encI .i64) r)]) := by
 refine C.of_body func68 Z Z Z ?_
 refine Rg (S Z (Nx (Rg ?_)))
 refine vH (OpH.lit (xs := []) (es := List.map (encI .i64) []) el_39 Z Z Z Z Z trivial Z Z) ?_
 refine aV (.osl 0 0 (([] : List Int).length) 1) [.row 3 1 (List.map (encI .i64) ([] : List Int))] Z Z ?_
 refine S Z (Nx (TC.seq (Rg (S Z (Nx (Bd h fun b164 h165 h => ?_))))))
 refine TC.cut ([(3, .osl 0 0 b164.length 1)]) ([.row 3 1 (List.map (encI .i64) b164)]) ?_ (fun env H hle => ?_)
 ·
  refine TC.block ?_
  refine TC.loop (E := fun s167 => [(0, .rsl 3 (List.map Part.enc a1)), (3, .osl 0 0 s167.1.length 1), (4, .int .i64 s167.2)]) (Hp := fun s167 => [.row 3 1 (List.map (encI .i64) s167.1)]) h165 ?_ ?_
  ·
   exact Lr [0]
  intro s167 d168 h169 hb166
  refine TC.seq (TC.seq (Bd h169 fun b171 h172 h169 => ?_))
  refine TC.cut ([(0, .rsl 3 (List.map Part.enc a1)), (3, .osl 0 0 s167.1.length 1), (4, .int .i64 s167.2), (16, .bool b171)]) ([.row 3 1 (List.map (encI .i64) s167.1)]) ?_ (fun env H hle => ?_)
  ·
   refine TC.region (S Z (S Z (LnM runUnderlying59 Z (S Z (S Z (If h172 (fun hg173 h172 => ?_) (fun hg173 h172 => ?_)))))))
   ·
    refine Sg (gT hg173) Z ?_
    refine vX (.int .i64 (s167.1.length : Int)) (OpV.lenOM runUnderlying39) ?_ (gT hg173)
    refine Sg (gT hg173) Z (Pk hg173 Z (WO.nil ?_))
    obtain rfl := Oi h172
    exact cutN (Lr [0])
   ·
    refine KF hg173 Z (KF hg173 Z (KF hg173 Z (Pk hg173 Z (WO.nil ?_))))
    obtain rfl := Oi h172
    exact cutN (Lr [0])
  refine seqN (TC.le hle (CnS Z h169 (fun hc174 h169 => ?_) (fun hc174 h169 => ?_)))
  ·
   refine ExX (loopX h169 ?_)
   obtain rfl := hb166 _ (Oi h169).symm
   exact bloE (cutN (Lr [0]))
  refine SkN (TC.seq (Bd h169 fun b212 h213 h169 => ?_))
  refine TC.cut ([(0, .rsl 3 (List.map Part.enc a1)), (3, .osl 0 0 b212.length 1), (4, .int .i64 s167.2)]) ([.row 3 1 (List.map (encI .i64) b212)]) ?_ (fun env H hle => ?_)
  ·
   refine TC.block (TC.seq (Rg (S Z (S Z (Bd h213 fun x214 hx214 h213 => ?_)))))
   refine vX (.rp [.int .i64 x214.Mat, .int .i64 x214.Laps, .rsl 3 (List.map Part.enc x214.Parts)]) (OpV.ixME (e := Part.enc) hx214 (Part.enc_eq x214) runUnderlying59 sizeOf85) ?_
   refine Fr fa_85_1 Z (Ld isAgg3 Z (S Z (Nx (Cn Z h213 (fun hc215 h213 => ?_) (fun hc215 h213 => ?_)))))
   ·
    refine Rg (S Z (S Z (S Z (Bd h213 fun x216 hx216 h213 => ?_))))
    refine vX (.rp [.int .i64 x216.Mat, .int .i64 x216.Laps, .rsl 3 (List.map Part.enc x216.Parts)]) (OpV.ixME (e := Part.enc) hx216 (Part.enc_eq x216) runUnderlying59 sizeOf85) ?_
    refine Fr fa_85_0 Z (Ld isAgg3 Z ?_)
    refine vH (OpH.lit (xs := [.tmp 30]) (es := List.map (encI .i64) [x216.Mat]) el_39 Z Z Z Z Z ⟨Z, trivial⟩ Z Z) ?_
    refine aV (.osl 1 0 ([x216.Mat].length) 1) [_, .row 3 1 (List.map (encI .i64) [x216.Mat])] Z Z ?_
    refine Bd h213 fun l217 hl217 h213 => ?_
    refine vH (OpH.appO (e := (encI .i64)) hl217 el_39 runUnderlying39 (Src.oM (i := 1))) ?_
    refine aV (.osl 2 0 l217.length 1) [.dead, _, .row 3 1 (List.map (encI .i64) l217)] Z Z ?_
    refine S Z (Nx (ExX (bloE ?_)))
    obtain rfl := Oi h213
    exact cutN (Lr [2])
   refine SkN (Rg (S Z (S Z (Bd h213 fun x218 hx218 h213 => ?_))))
   refine vX (.rp [.int .i64 x218.Mat, .int .i64 x218.Laps, .rsl 3 (List.map Part.enc x218.Parts)]) (OpV.ixME (e := Part.enc) hx218 (Part.enc_eq x218) runUnderlying59 sizeOf85) ?_
   refine Fr fa_85_2 Z (Ld isAgg59 Z (Bd h213 fun r219 hr219 h213 => ?_))
   refine WO.callD [] (OpC.fn call68 Z Z Z) (hrec166 _ _ hr219) ?_
   rintro _ _ ⟨rfl, rfl⟩
   refine aV (.osl 1 0 r219.length 1) [_, .row 3 1 (List.map (encI .i64) r219)] Z Z ?_
   refine S Z (Nx (Rg (S Z (Nx (Bd h213 fun b237 h238 h213 => ?_)))))
   refine TC.cut ([(0, .rsl 3 (List.map Part.enc a1)), (3, .osl 0 0 b237.length 1), (4, .int .i64 s167.2)]) ([.row 3 1 (List.map (encI .i64) b237)]) ?_ (fun env H hle => ?_)
   ·
    refine TC.block ?_
    refine TC.loop (E := fun s240 => [(0, .rsl 3 (List.map Part.enc a1)), (3, .osl 0 0 s240.1.length 1), (4, .int .i64 s167.2), (5, .osl 1 0 r219.length 1), (6, .int .i64 s240.2)]) (Hp := fun s240 => [.row 3 1 (List.map (encI .i64) s240.1), .row 3 1 (List.map (encI .i64) r219)]) h238 ?_ ?_
    ·
     exact Lr [0, 1]
    intro s240 d241 h242 hb239
    refine TC.seq (TC.seq (Bd h242 fun b245 h246 h242 => ?_))
    refine TC.cut ([(0, .rsl 3 (List.map Part.enc a1)), (3, .osl 0 0 s240.1.length 1), (4, .int .i64 s167.2), (5, .osl 1 0 r219.length 1), (6, .int .i64 s240.2), (50, .bool b245)]) ([.row 3 1 (List.map (encI .i64) s240.1), .row 3 1 (List.map (encI .i64) r219)]) ?_ (fun env H hle => ?_)
    ·
     refine TC.region (S Z (S Z (S Z (Bd h246 fun x247 hx247 h246 => ?_))))
     refine vX (.rp [.int .i64 x247.Mat, .int .i64 x247.Laps, .rsl 3 (List.map Part.enc x247.Parts)]) (OpV.ixME (e := Part.enc) hx247 (Part.enc_eq x247) runUnderlying59 sizeOf85) ?_
     refine Fr fa_85_1 Z (Ld isAgg3 Z (S Z (S Z (If h246 (fun hg248 h246 => ?_) (fun hg248 h246 => ?_)))))
     ·
      refine Sg (gT hg248) Z ?_
      refine vX (.int .i64 (s240.1.length : Int)) (OpV.lenOM runUnderlying39) ?_ (gT hg248)
      refine Sg (gT hg248) Z (Pk hg248 Z (WO.nil ?_))
      obtain rfl := Oi h246
      exact cutN (Lr [0, 1])
     ·
      refine KF hg248 Z (KF hg248 Z (KF hg248 Z (Pk hg248 Z (WO.nil ?_))))
      obtain rfl := Oi h246
      exact cutN (Lr [0, 1])
    refine seqN (TC.le hle (CnS Z h242 (fun hc249 h242 => ?_) (fun hc249 h242 => ?_)))
    ·
     refine ExX (loopX h242 ?_)
     obtain rfl := hb239 _ (Oi h242).symm
     exact bloE (cutN (Lr [0]))
    refine SkN (TC.seq (TC.block (TC.region (S Z (S Z (Bd h242 fun l250 hl250 h242 => ?_))))))
    refine vH (OpH.appO (e := (encI .i64)) hl250 el_39 runUnderlying39 (Src.oM (i := 1))) ?_
    refine aV (.osl 2 0 l250.length 1) [.dead, _, .row 3 1 (List.map (encI .i64) l250)] Z Z ?_
    exact S Z (WO.nil (bloN (seqN (TC.region (S Z (S Z (S Z (WO.nil (loopN h242 (Lr [2, 1]))))))))))
   refine bloN ?_
   obtain rfl := Oi h213
   exact cutN (Le.trans hle (Lr [0]))
  exact seqN (TC.le hle (TC.region (S Z (S Z (S Z (WO.nil (loopN h169 (Lr [0]))))))))
 refine seqN (TC.le hle (Rg (S Z (S Z (Nx (TC.ret ?_))))))
 obtain rfl := Oi h
 refine ⟨[(2, _)], _, _, ?_, ResOK.one Z Z, Z, Z⟩
 exact Lr [0]
def F_t : Nat → (List Part) → Option (List Int)
  | 0 => fun _ => none
  | n + 1 => B_t (F_t n) n
theorem k_t (n : Nat) : ∀ (a1 : List Part) (r : List Int), F_t n a1 = some r → C prog 68 [.rsl 3 (List.map Part.enc a1)] [] (fun a H => a = .osl 0 0 r.length 1 ∧ H = [.row 3 1 (List.map (encI .i64) r)]) := by
  induction n with
  | zero => intro a1 r h; cases h
  | succ n ih => intro a1 r h; exact okB_stopwatchref07_Expand _ ih n a1 r h
def F_ed (n : Nat) (a1 : Course) (a2 : Int) (a3 : Int) (s25 : Int) : Option (Ctl Int (Ctl Unit Int)) :=
  (bif decide (s25 < (a1.Legs.length : Int)) then ((idx a1.Legs s25).bind fun x34 => (bif (x34.From == a2) then (idx a1.Legs s25).bind fun x36 => some (x36.To == a3) else some false) : Option Bool).bind fun b32 => (bif b32 then some (.done (.done s25)) else some (.cont (IntKind.i64.wrap (s25 + 1)))) else some (.done (.cont ())))
def F_y (n : Nat) (a1 : Course) (a2 : Int) (a3 : Int) : Option Int :=
  (iter (F_ed n a1 a2 a3) n 0 : Option (Ctl Unit Int)).bind fun b22 => match b22 with | .cont sb22 => (some (-1)) | .done sb22 => some sb22
theorem k_y (n : Nat) (a1 : Course) (a2 : Int) (a3 : Int) (r : Int) (h : F_y n a1 a2 a3 = some r) :
    C prog 69 [.agg (Course.c a1), .int .i64 a2, .int .i64 a3] [] (fun a H => a = .int .i64 r ∧ H = []) := by
 refine C.of_body func69 Z Z Z ?_
 refine Rg ?_
 refine vH (OpH.box Z Z Z Z Z) ?_
 refine aV (.ptr 0 0) [.cells 33 (Course.c a1)] Z Z ?_
 refine S Z (Nx (TC.seq (Rg (S Z (Nx (Bd h fun b22 h23 h => ?_))))))
 refine TC.cutE (b := b22) (fun sb22 => []) (fun sb22 => []) ?_ (fun sb22 env H hbe hle => ?_)
 ·
  refine TC.block ?_
  refine TC.loop (E := fun s25 => [(1, .int .i64 a2), (2, .int .i64 a3), (3, .ptr 0 0), (7, .int .i64 s25)]) (Hp := fun s25 => [.cells 33 (Course.c a1)]) h23 ?_ ?_
  ·
   exact Lr [0]
  intro s25 d26 h27 hb24
  refine TC.seq (Rg (S Z (Fp fa_33_2 Z (Ld isAgg23 Z (LnM runUnderlying23 Z (S Z (Nx (CnS Z h27 (fun hc28 h27 => ?_) (fun hc28 h27 => ?_)))))))))
  ·
   refine ExX (loopX h27 ?_)
   obtain rfl := hb24 _ (Oi h27).symm
   exact bloE (cutEN Z (Lr []))
  refine SkN (TC.seq (TC.block (TC.seq (Bd h27 fun b32 h33 h27 => ?_))))
  refine TC.cut ([(1, .int .i64 a2), (2, .int .i64 a3), (3, .ptr 0 0), (7, .int .i64 s25), (32, .bool b32)]) ([.cells 33 (Course.c a1)]) ?_ (fun env H hle => ?_)
  ·
   refine TC.region (Fp fa_33_2 Z (Ld isAgg23 Z (S Z (Bd h33 fun x34 hx34 h33 => Ix hx34 runUnderlying23 sizeOf90 Z (Fr fa_90_0 Z (Ld isAgg3 Z (S Z (S Z (S Z (If h33 (fun hg35 h33 => ?_) (fun hg35 h33 => ?_)))))))))))
   ·
    refine Fpg (gT hg35) fa_33_2 Z (Ldg (gT hg35) isAgg23 Z (Sg (gT hg35) Z (Bd h33 fun x36 hx36 h33 => ?_)))
    refine vX (.rp [.int .i64 x36.From, .int .i64 x36.To, .int .i64 x36.Min, .int .i64 x36.Max]) (OpV.ixM (e := Leg.c) (l := a1.Legs) (v := x36) hx36 runUnderlying23 sizeOf90) ?_ (gT hg35)
    refine Frg (gT hg35) fa_90_1 Z (Ldg (gT hg35) isAgg3 Z (Sg (gT hg35) Z (Sg (gT hg35) Z (Pk hg35 Z (WO.nil ?_)))))
    obtain rfl := Oi h33
    exact cutN (Lr [0])
   ·
    refine KF hg35 Z (KF hg35 Z (KF hg35 Z (KF hg35 Z (KF hg35 Z (KF hg35 Z (KF hg35 Z (KF hg35 Z (Pk hg35 Z (WO.nil ?_)))))))))
    obtain rfl := Oi h33
    exact cutN (Lr [0])
  refine seqN (TC.le hle (Cn Z h27 (fun hc37 h27 => ?_) (fun hc37 h27 => ?_)))
  ·
   refine Rg (S Z (S Z (Nx (TC.ret (bloR (seqR (loopR h27 ?_)))))))
   obtain rfl := hb24 _ (Oi h27).symm
   refine bloR (cutER (seqR ?_))
   obtain rfl := Oi h
   refine ⟨[(6, _)], _, _, ?_, ResOK.one Z Z, Z, Z⟩
   exact Lr []
  exact TC.skip (bloN (seqN (TC.region (S Z (S Z (S Z (WO.nil (loopN h27 (Lr [0])))))))))
 subst hbe
 refine seqN (TC.le hle (Rg (S Z (Nx (TC.ret ?_)))))
 obtain rfl := Oi h
 refine ⟨[(6, _)], _, _, ?_, ResOK.one Z Z, Z, Z⟩
 exact Lr []
def F_dz (n : Nat) (a1 : List Int) (a2 : Int) (s17 : Int × Int) : Option (Ctl (Int × Int) Int) :=
  (bif decide (s17.2 < (a1.length : Int)) then (idx a1 s17.2).bind fun x21 => ((bif (x21 == a2) then some (IntKind.i64.wrap (s17.1 + 1)) else some s17.1) : Option Int).bind fun b23 => some (.cont (b23, IntKind.i64.wrap (s17.2 + 1))) else some (.done s17.1))
def F_ab (n : Nat) (a1 : List Int) (a2 : Int) : Option Int :=
  (iter (F_dz n a1 a2) n (0, 0) : Option Int).bind fun b14 => some b14
theorem k_ab (n : Nat) (a1 : List Int) (a2 : Int) (r : Int) (h : F_ab n a1 a2 = some r) :
    C prog 70 [.rsl 1 (List.map (encI .i64) a1), .int .i64 a2] [] (fun a H => a = .int .i64 r ∧ H = []) := by
 refine C.of_body func70 Z Z Z ?_
 refine Rg (S Z (Nx (Rg (S Z (Nx (TC.seq (Rg (S Z (Nx (Bd h fun b14 h15 h => ?_))))))))))
 refine TC.cut ([(5, .int .i64 b14)]) ([]) ?_ (fun env H hle => ?_)
 ·
  refine TC.block ?_
  refine TC.loop (E := fun s17 => [(0, .rsl 1 (List.map (encI .i64) a1)), (1, .int .i64 a2), (5, .int .i64 s17.1), (6, .int .i64 s17.2)]) (Hp := fun s17 => []) h15 ?_ ?_
  ·
   exact Lr []
  intro s17 d18 h19 hb16
  refine TC.seq (Rg (S Z (S Z (LnM runUnderlying39 Z (S Z (Nx (CnS Z h19 (fun hc20 h19 => ?_) (fun hc20 h19 => ?_))))))))
  ·
   refine ExX (loopX h19 ?_)
   obtain rfl := hb16 _ (Oi h19).symm
   exact bloE (cutN (Lr []))
  refine SkN (TC.seq (TC.block (Rg (S Z (S Z (Bd h19 fun x21 hx21 h19 => Ix hx21 runUnderlying39 sizeOf3 Z (Ld isAgg3 Z (S Z (S Z (Nx (Bd h19 fun b23 h24 h19 => ?_)))))))))))
  refine TC.cut ([(0, .rsl 1 (List.map (encI .i64) a1)), (1, .int .i64 a2), (5, .int .i64 b23), (6, .int .i64 s17.2)]) ([]) ?_ (fun env H hle => ?_)
  ·
   refine Cn Z h24 (fun hc25 h24 => ?_) (fun hc25 h24 => ?_)
   ·
    refine TC.region (S Z (S Z (S Z (WO.nil ?_))))
    obtain rfl := Oi h24
    exact cutN (Lr [])
   refine TC.skip ?_
   obtain rfl := Oi h24
   exact cutN (Lr [])
  exact bloN (seqN (TC.le hle (TC.region (S Z (S Z (S Z (WO.nil (loopN h19 (Lr [])))))))))
 refine seqN (TC.le hle (Rg (S Z (S Z (Nx (TC.ret ?_))))))
 obtain rfl := Oi h
 refine ⟨[(4, _)], _, _, ?_, ResOK.one Z Z, Z, Z⟩
 exact Lr []
def F_cn (n : Nat) (a1 : Course) (r1 : List Int) (s45 : Int) : Option (Ctl Int (Ctl Unit Bool)) :=
  (bif decide (s45 < (r1.length : Int)) then ((bif (s45 == 0) then some 1 else (bif (s45 == (IntKind.i64.wrap ((r1.length : Int) - 1))) then some 3 else some 2)) : Option Int).bind fun b51 => ((idx r1 s45).bind fun x64 => (idx a1.Mats x64).bind fun x65 => (bif (x65.Kind != b51) then some true else (bif decide (0 < s45) then (idx r1 (IntKind.i64.wrap (s45 - 1))).bind fun x68 => (idx r1 s45).bind fun x69 => (F_y n a1 x68 x69).bind fun r70 => some (decide (r70 < 0)) else some false)) : Option Bool).bind fun b62 => (bif b62 then some (.done (.done false)) else some (.cont (IntKind.i64.wrap (s45 + 1)))) else some (.done (.cont ())))
def F_gx (n : Nat) (a2 : Distance) (r1 : List Int) (s101 : Int) : Option (Ctl Int (Ctl Unit Bool)) :=
  (bif decide (s101 < (a2.Cutoffs.length : Int)) then (idx a2.Cutoffs s101).bind fun x105 => (F_ab n r1 x105.Mat).bind fun r106 => (idx a2.Cutoffs s101).bind fun x107 => (bif decide (r106 < x107.Lap) then some (.done (.done false)) else some (.cont (IntKind.i64.wrap (s101 + 1)))) else some (.done (.cont ())))
def F_bh (n : Nat) (a1 : Course) (a2 : Distance) : Option Bool :=
  (F_t n a2.Route).bind fun r1 => ((bif decide ((r1.length : Int) < 2) then some true else some (decide (256 < (r1.length : Int)))) : Option Bool).bind fun b3 => (bif b3 then some false else (iter (F_cn n a1 r1) n 0 : Option (Ctl Unit Bool)).bind fun b42 => match b42 with | .cont sb42 => (((bif (a2.Extra != (-1)) then (idx a1.Mats a2.Extra).bind fun x81 => (bif (x81.Kind != 2) then some true else (F_ab n r1 a2.Extra).bind fun r83 => (bif (r83 == 0) then some true else (F_y n a1 a2.Extra a2.Extra).bind fun r85 => some (decide (r85 < 0)))) else some false) : Option Bool).bind fun b78 => (bif b78 then some false else (iter (F_gx n a2 r1) n 0 : Option (Ctl Unit Bool)).bind fun b98 => match b98 with | .cont sb98 => (some true) | .done sb98 => some sb98)) | .done sb42 => some sb42)
theorem k_bh (n : Nat) (a1 : Course) (a2 : Distance) (r : Bool) (h : F_bh n a1 a2 = some r) :
    C prog 41 [.agg (Course.c a1), .agg (Distance.c a2)] [] (fun a H => a = .bool r ∧ H = []) := by
 refine C.of_body func41 Z Z Z ?_
 refine Rg ?_
 refine vH (OpH.box Z Z Z Z Z) ?_
 refine aV (.ptr 0 0) [.cells 33 (Course.c a1)] Z Z ?_
 refine vH (OpH.box Z Z Z Z Z) ?_
 refine aV (.ptr 1 0) [_, .cells 62 (Distance.c a2)] Z Z ?_
 refine S Z (Nx (Rg (Fp fa_62_1 Z (Ld isAgg59 Z (Bd h fun r1 hr1 h => ?_)))))
 refine WO.callD [] (OpC.fn call68 Z Z Z) (k_t _ _ _ hr1) ?_
 rintro _ _ ⟨rfl, rfl⟩
 refine aV (.osl 2 0 r1.length 1) [_, _, .row 3 1 (List.map (encI .i64) r1)] Z Z ?_
 refine S Z (Nx (Rg (S Z (LnO runUnderlying39 Z (S Z (Nx (TC.seq (TC.seq (Bd h fun b3 h4 h => ?_)))))))))
 refine TC.cut ([(2, .ptr 0 0), (3, .ptr 1 0), (5, .osl 2 0 r1.length 1), (6, .int .i64 (r1.length : Int)), (20, .bool b3)]) ([.cells 33 (Course.c a1), .cells 62 (Distance.c a2), .row 3 1 (List.map (encI .i64) r1)]) ?_ (fun env H hle => ?_)
 ·
  refine TC.region (S Z (S Z (S Z (If h4 (fun hg5 h4 => ?_) (fun hg5 h4 => ?_)))))
  ·
   refine KF hg5 Z (KF hg5 Z (Pk hg5 Z (WO.nil ?_)))
   obtain rfl := Oi h4
   exact cutN (Lr [0, 1, 2])
  ·
   refine Sg (gT hg5) Z (Sg (gT hg5) Z (Pk hg5 Z (WO.nil ?_)))
   obtain rfl := Oi h4
   exact cutN (Lr [0, 1, 2])
 refine seqN (TC.le hle (Cn Z h (fun hc6 h => ?_) (fun hc6 h => ?_)))
 ·
  refine Rg (S Z (Nx (RtR ?_)))
  obtain rfl := Oi h
  refine ⟨[(4, _)], _, _, ?_, ResOK.one Z Z, Z, Z⟩
  exact Lr []
 refine SkN (TC.seq (Rg (S Z (Nx (Bd h fun b42 h43 h => ?_)))))
 refine TC.cutE (b := b42) (fun sb42 => [(2, .ptr 0 0), (3, .ptr 1 0), (5, .osl 2 0 r1.length 1)]) (fun sb42 => [.cells 33 (Course.c a1), .cells 62 (Distance.c a2), .row 3 1 (List.map (encI .i64) r1)]) ?_ (fun sb42 env H hbe hle => ?_)
 ·
  refine TC.block ?_
  refine TC.loop (E := fun s45 => [(2, .ptr 0 0), (3, .ptr 1 0), (5, .osl 2 0 r1.length 1), (6, .int .i64 (r1.length : Int)), (7, .int .i64 s45)]) (Hp := fun s45 => [.cells 33 (Course.c a1), .cells 62 (Distance.c a2), .row 3 1 (List.map (encI .i64) r1)]) h43 ?_ ?_
  ·
   exact Lr [0, 1, 2]
  intro s45 d46 h47 hb44
  refine TC.seq (Rg (S Z (S Z (S Z (Nx (CnS Z h47 (fun hc48 h47 => ?_) (fun hc48 h47 => ?_)))))))
  ·
   refine ExX (loopX h47 ?_)
   obtain rfl := hb44 _ (Oi h47).symm
   exact bloE (cutEN Z (Lr [0, 1, 2]))
  refine SkN (TC.seq (TC.block (Rg (S Z (Nx (TC.seq (Rg (S Z (Nx (TC.block (Rg (S Z (S Z (Nx (Bd h47 fun b51 h52 h47 => ?_)))))))))))))))
  refine TC.cut ([(2, .ptr 0 0), (3, .ptr 1 0), (5, .osl 2 0 r1.length 1), (6, .int .i64 (r1.length : Int)), (7, .int .i64 s45), (8, .int .i64 b51)]) ([.cells 33 (Course.c a1), .cells 62 (Distance.c a2), .row 3 1 (List.map (encI .i64) r1)]) ?_ (fun env H hle => ?_)
  ·
   refine Cn Z h52 (fun hc53 h52 => ?_) (fun hc53 h52 => ?_)
   ·
    refine TC.region (S Z (WO.nil ?_))
    obtain rfl := Oi h52
    exact cutN (Lr [0, 1, 2])
   refine Rg (S Z (S Z (S Z (S Z (Nx (Cn Z h52 (fun hc54 h52 => ?_) (fun hc54 h52 => ?_)))))))
   ·
    refine TC.region (S Z (WO.nil ?_))
    obtain rfl := Oi h52
    exact cutN (Lr [0, 1, 2])
   refine TC.skip ?_
   obtain rfl := Oi h52
   exact cutN (Lr [0, 1, 2])
  refine bloN (seqN (TC.le hle (TC.seq (Bd h47 fun b62 h63 h47 => ?_))))
  refine TC.cut ([(2, .ptr 0 0), (3, .ptr 1 0), (5, .osl 2 0 r1.length 1), (6, .int .i64 (r1.length : Int)), (7, .int .i64 s45), (61, .bool b62)]) ([.cells 33 (Course.c a1), .cells 62 (Distance.c a2), .row 3 1 (List.map (encI .i64) r1)]) ?_ (fun env H hle => ?_)
  ·
   obtain ⟨x64, hx64, h63⟩ := bnd h63
   obtain ⟨x65, hx65, h63⟩ := bnd h63
   refine If h63 (fun hg66 h63 => ?_) (fun hg66 h63 => ?_)
   ·
    refine TC.draw 25 0 [33, 34, 35, 36, 37, 38, 39, 40, 41, 42, 43, 44, 45, 46, 47, 48, 49, 50, 51, 52, 53, 54, 55, 56, 57] [0, 0, 0, 0, 0, 0, 0, 0, 0, 0, 0, 0, 0, 0, 0, 0, 0, 0, 0, 0, 0, 0, 0, 0, 0] [false, false, false, false, false, false, false, false, false, false, false, false, false, false, false, false, false, false, false, false, false, false, false, false, false] [.ptr 0 1, .rsl 2 (List.map Mat.c a1.Mats), .osl 2 0 r1.length 1, .int .i64 s45, .ptr 2 (Int.toNat s45 * 1), .int .i64 x64, .rp [.str x65.Name, .int .i64 x65.Kind], .rp [.int .i64 x65.Kind], .int .i64 x65.Kind, .int .i64 b51, .bool (x65.Kind != b51), .bool (x65.Kind != b51), .tup [], .tup [], .tup [], .tup [], .tup [], .tup [], .tup [], .tup [], .tup [], .tup [], .tup [], .tup [], .tup []] [[.cells 33 (Course.c a1), .cells 62 (Distance.c a2), .row 3 1 (List.map (encI .i64) r1)]] ([.cells 33 (Course.c a1), .cells 62 (Distance.c a2), .row 3 1 (List.map (encI .i64) r1)]) draws Z Z Z Z Z Z Z Z ?_ ?_
    ·
     refine Ob.cons ?_ (Ob.cons ?_ (Ob.cons ?_ (Ob.cons ?_ (Ob.cons ?_ (Ob.cons ?_ (Ob.cons ?_ (Ob.cons ?_ (Ob.cons ?_ (Ob.cons ?_ (Ob.cons ?_ (Ob.cons ?_ (Ob.cons ?_ (Ob.cons ?_ (Ob.cons ?_ (Ob.cons ?_ (Ob.cons ?_ (Ob.cons ?_ (Ob.cons ?_ (Ob.cons ?_ (Ob.cons ?_ (Ob.cons ?_ (Ob.cons ?_ (Ob.cons ?_ (Ob.cons ?_ (Ob.nil)))))))))))))))))))))))))
     ·
       refine OB [(2, _)] 33 Z Z Z (Sb.old Z Z Sb.nil) ?_
       exact Fp fa_33_1 Z Wp
     ·
       refine OB [(33, _)] 34 Z Z Z (Sb.dep 0 Z Z Z Sb.nil) ?_
       exact Ld isAgg22 Z Wp
     ·
       refine OB [(5, _)] 35 Z Z Z (Sb.old Z Z Sb.nil) ?_
       exact S Z Wp
     ·
       refine OB [(7, _)] 36 Z Z Z (Sb.old Z Z Sb.nil) ?_
       exact S Z Wp
     ·
       refine OB [(35, _), (36, _)] 37 Z Z Z (Sb.dep 2 Z Z Z (Sb.dep 3 Z Z Z Sb.nil)) ?_
       refine vX (.ptr 2 (Int.toNat s45 * 1)) (OpV.ixW hx64 Z runUnderlying39 sizeOf3) ?_
       exact WO.nil Post1.mk
     ·
       refine OB [(37, _)] 38 Z Z Z (Sb.dep 4 Z Z Z Sb.nil) ?_
       refine vX (.int .i64 x64) (OpV.load Z isAgg3 Z (Pts.ofRow0 hx64)) ?_
       exact WO.nil Post1.mk
     ·
       refine OB [(34, _), (38, _)] 39 Z Z Z (Sb.dep 1 Z Z Z (Sb.dep 5 Z Z Z Sb.nil)) ?_
       exact Ix hx65 runUnderlying22 sizeOf107 Z Wp
     ·
       refine OB [(39, _)] 40 Z Z Z (Sb.dep 6 Z Z Z Sb.nil) ?_
       exact Fr fa_107_1 Z Wp
     ·
       refine OB [(40, _)] 41 Z Z Z (Sb.dep 7 Z Z Z Sb.nil) ?_
       exact Ld isAgg3 Z Wp
     ·
       refine OB [(8, _)] 42 Z Z Z (Sb.old Z Z Sb.nil) ?_
       exact S Z Wp
     ·
       refine OB [(41, _), (42, _)] 43 Z Z Z (Sb.dep 8 Z Z Z (Sb.dep 9 Z Z Z Sb.nil)) ?_
       exact S Z Wp
     ·
       refine OB [(43, _)] 44 Z Z Z (Sb.dep 10 Z Z Z Sb.nil) ?_
       exact S Z Wp
     ·
       refine OB [(7, _), (44, _)] 45 Z Z Z (Sb.old Z Z (Sb.dep 11 Z Z Z Sb.nil)) ?_
       exact K (gF hg66) Z Wp
     ·
       refine OB [(44, _), (45, _)] 46 Z Z Z (Sb.dep 11 Z Z Z (Sb.dep 12 Z Z Z Sb.nil)) ?_
       exact K (gF hg66) Z Wp
     ·
       refine OB [(44, _), (46, _)] 47 Z Z Z (Sb.dep 11 Z Z Z (Sb.dep 13 Z Z Z Sb.nil)) ?_
       exact K (gF hg66) Z Wp
     ·
       refine OB [(2, _), (47, _)] 48 Z Z Z (Sb.old Z Z (Sb.dep 14 Z Z Z Sb.nil)) ?_
       exact K gU Z Wp
     ·
       refine OB [(5, _), (47, _)] 49 Z Z Z (Sb.old Z Z (Sb.dep 14 Z Z Z Sb.nil)) ?_
       exact K gU Z Wp
     ·
       refine OB [(7, _), (47, _)] 50 Z Z Z (Sb.old Z Z (Sb.dep 14 Z Z Z Sb.nil)) ?_
       exact K gU Z Wp
     ·
       refine OB [(47, _), (50, _)] 51 Z Z Z (Sb.dep 14 Z Z Z (Sb.dep 17 Z Z Z Sb.nil)) ?_
       exact K gU Z Wp
     ·
       refine OB [(47, _), (49, _), (51, _)] 52 Z Z Z (Sb.dep 14 Z Z Z (Sb.dep 16 Z Z Z (Sb.dep 18 Z Z Z Sb.nil))) ?_
       exact K gU Z Wp
     ·
       refine OB [(47, _), (52, _)] 53 Z Z Z (Sb.dep 14 Z Z Z (Sb.dep 19 Z Z Z Sb.nil)) ?_
       exact K gU Z Wp
     ·
       refine OB [(5, _), (47, _)] 54 Z Z Z (Sb.old Z Z (Sb.dep 14 Z Z Z Sb.nil)) ?_
       exact K gU Z Wp
     ·
       refine OB [(7, _), (47, _)] 55 Z Z Z (Sb.old Z Z (Sb.dep 14 Z Z Z Sb.nil)) ?_
       exact K gU Z Wp
     ·
       refine OB [(47, _), (54, _), (55, _)] 56 Z Z Z (Sb.dep 14 Z Z Z (Sb.dep 21 Z Z Z (Sb.dep 22 Z Z Z Sb.nil))) ?_
       exact K gU Z Wp
     ·
       refine OB [(47, _), (56, _)] 57 Z Z Z (Sb.dep 14 Z Z Z (Sb.dep 23 Z Z Z Sb.nil)) ?_
       exact K gU Z Wp
    refine KU Z (KU Z (KF hg66 Z (Pk hg66 Z (WO.nil ?_))))
    obtain rfl := Oi h63
    exact cutN (Lr [0, 1, 2])
   ·
    refine If h63 (fun hg67 h63 => ?_) (fun hg67 h63 => ?_)
    ·
     obtain ⟨x68, hx68, h63⟩ := bnd h63
     obtain ⟨x69, hx69, h63⟩ := bnd h63
     refine TC.draw 25 0 [33, 34, 35, 36, 37, 38, 39, 40, 41, 42, 43, 44, 45, 46, 47, 48, 49, 50, 51, 52, 53, 54, 55, 56, 57] [0, 0, 0, 0, 0, 0, 0, 0, 0, 0, 0, 0, 0, 0, 0, 0, 0, 0, 0, 0, 0, 0, 0, 0, 0] [false, false, false, false, false, false, false, false, false, false, false, false, false, false, false, false, false, false, false, false, false, false, false, false, false] [.ptr 0 1, .rsl 2 (List.map Mat.c a1.Mats), .osl 2 0 r1.length 1, .int .i64 s45, .ptr 2 (Int.toNat s45 * 1), .int .i64 x64, .rp [.str x65.Name, .int .i64 x65.Kind], .rp [.int .i64 x65.Kind], .int .i64 x65.Kind, .int .i64 b51, .bool (x65.Kind != b51), .bool (x65.Kind != b51), .int .i64 s45, .bool (decide (0 < s45)), .bool (decide (0 < s45)), .agg (Course.c a1), .osl 2 0 r1.length 1, .int .i64 s45, .int .i64 (IntKind.i64.wrap (s45 - 1)), .ptr 2 (Int.toNat (IntKind.i64.wrap (s45 - 1)) * 1), .int .i64 x68, .osl 2 0 r1.length 1, .int .i64 s45, .ptr 2 (Int.toNat s45 * 1), .int .i64 x69] [[.cells 33 (Course.c a1), .cells 62 (Distance.c a2), .row 3 1 (List.map (encI .i64) r1)]] ([.cells 33 (Course.c a1), .cells 62 (Distance.c a2), .row 3 1 (List.map (encI .i64) r1)]) draws Z Z Z Z Z Z Z Z ?_ ?_
     ·
      refine Ob.cons ?_ (Ob.cons ?_ (Ob.cons ?_ (Ob.cons ?_ (Ob.cons ?_ (Ob.cons ?_ (Ob.cons ?_ (Ob.cons ?_ (Ob.cons ?_ (Ob.cons ?_ (Ob.cons ?_ (Ob.cons ?_ (Ob.cons ?_ (Ob.cons ?_ (Ob.cons ?_ (Ob.cons ?_ (Ob.cons ?_ (Ob.cons ?_ (Ob.cons ?_ (Ob.cons ?_ (Ob.cons ?_ (Ob.cons ?_ (Ob.cons ?_ (Ob.cons ?_ (Ob.cons ?_ (Ob.nil)))))))))))))))))))))))))
      ·
        refine OB [(2, _)] 33 Z Z Z (Sb.old Z Z Sb.nil) ?_
        exact Fp fa_33_1 Z Wp
      ·
        refine OB [(33, _)] 34 Z Z Z (Sb.dep 0 Z Z Z Sb.nil) ?_
        exact Ld isAgg22 Z Wp
      ·
        refine OB [(5, _)] 35 Z Z Z (Sb.old Z Z Sb.nil) ?_
        exact S Z Wp
      ·
        refine OB [(7, _)] 36 Z Z Z (Sb.old Z Z Sb.nil) ?_
        exact S Z Wp
      ·
        refine OB [(35, _), (36, _)] 37 Z Z Z (Sb.dep 2 Z Z Z (Sb.dep 3 Z Z Z Sb.nil)) ?_
        refine vX (.ptr 2 (Int.toNat s45 * 1)) (OpV.ixW hx64 Z runUnderlying39 sizeOf3) ?_
        exact WO.nil Post1.mk
      ·
        refine OB [(37, _)] 38 Z Z Z (Sb.dep 4 Z Z Z Sb.nil) ?_
        refine vX (.int .i64 x64) (OpV.load Z isAgg3 Z (Pts.ofRow0 hx64)) ?_
        exact WO.nil Post1.mk
      ·
        refine OB [(34, _), (38, _)] 39 Z Z Z (Sb.dep 1 Z Z Z (Sb.dep 5 Z Z Z Sb.nil)) ?_
        exact Ix hx65 runUnderlying22 sizeOf107 Z Wp
      ·
        refine OB [(39, _)] 40 Z Z Z (Sb.dep 6 Z Z Z Sb.nil) ?_
        exact Fr fa_107_1 Z Wp
      ·
        refine OB [(40, _)] 41 Z Z Z (Sb.dep 7 Z Z Z Sb.nil) ?_
        exact Ld isAgg3 Z Wp
      ·
        refine OB [(8, _)] 42 Z Z Z (Sb.old Z Z Sb.nil) ?_
        exact S Z Wp
      ·
        refine OB [(41, _), (42, _)] 43 Z Z Z (Sb.dep 8 Z Z Z (Sb.dep 9 Z Z Z Sb.nil)) ?_
        exact S Z Wp
      ·
        refine OB [(43, _)] 44 Z Z Z (Sb.dep 10 Z Z Z Sb.nil) ?_
        exact S Z Wp
      ·
        refine OB [(7, _), (44, _)] 45 Z Z Z (Sb.old Z Z (Sb.dep 11 Z Z Z Sb.nil)) ?_
        exact Sg (gT hg66) Z Wp
      ·
        refine OB [(44, _), (45, _)] 46 Z Z Z (Sb.dep 11 Z Z Z (Sb.dep 12 Z Z Z Sb.nil)) ?_
        exact Sg (gT hg66) Z Wp
      ·
        refine OB [(44, _), (46, _)] 47 Z Z Z (Sb.dep 11 Z Z Z (Sb.dep 13 Z Z Z Sb.nil)) ?_
        exact Sg (gT hg66) Z Wp
      ·
        refine OB [(2, _), (47, _)] 48 Z Z Z (Sb.old Z Z (Sb.dep 14 Z Z Z Sb.nil)) ?_
        refine vX (.agg (Course.c a1)) (OpV.loadA Z isAgg33 sizeOf33 Z (Pts.cells Z Z) Z Z) ?_ (gT hg67)
        exact WO.nil Post1.mk
      ·
        refine OB [(5, _), (47, _)] 49 Z Z Z (Sb.old Z Z (Sb.dep 14 Z Z Z Sb.nil)) ?_
        exact Sg (gT hg67) Z Wp
      ·
        refine OB [(7, _), (47, _)] 50 Z Z Z (Sb.old Z Z (Sb.dep 14 Z Z Z Sb.nil)) ?_
        exact Sg (gT hg67) Z Wp
      ·
        refine OB [(47, _), (50, _)] 51 Z Z Z (Sb.dep 14 Z Z Z (Sb.dep 17 Z Z Z Sb.nil)) ?_
        exact Sg (gT hg67) Z Wp
      ·
        refine OB [(47, _), (49, _), (51, _)] 52 Z Z Z (Sb.dep 14 Z Z Z (Sb.dep 16 Z Z Z (Sb.dep 18 Z Z Z Sb.nil))) ?_
        refine vX (.ptr 2 (Int.toNat (IntKind.i64.wrap (s45 - 1)) * 1)) (OpV.ixW hx68 Z runUnderlying39 sizeOf3) ?_ (gT hg67)
        exact WO.nil Post1.mk
      ·
        refine OB [(47, _), (52, _)] 53 Z Z Z (Sb.dep 14 Z Z Z (Sb.dep 19 Z Z Z Sb.nil)) ?_
        refine vX (.int .i64 x68) (OpV.load Z isAgg3 Z (Pts.ofRow0 hx68)) ?_ (gT hg67)
        exact WO.nil Post1.mk
      ·
        refine OB [(5, _), (47, _)] 54 Z Z Z (Sb.old Z Z (Sb.dep 14 Z Z Z Sb.nil)) ?_
        exact Sg (gT hg67) Z Wp
      ·
        refine OB [(7, _), (47, _)] 55 Z Z Z (Sb.old Z Z (Sb.dep 14 Z Z Z Sb.nil)) ?_
        exact Sg (gT hg67) Z Wp
      ·
        refine OB [(47, _), (54, _), (55, _)] 56 Z Z Z (Sb.dep 14 Z Z Z (Sb.dep 21 Z Z Z (Sb.dep 22 Z Z Z Sb.nil))) ?_
        refine vX (.ptr 2 (Int.toNat s45 * 1)) (OpV.ixW hx69 Z runUnderlying39 sizeOf3) ?_ (gT hg67)
        exact WO.nil Post1.mk
      ·
        refine OB [(47, _), (56, _)] 57 Z Z Z (Sb.dep 14 Z Z Z (Sb.dep 23 Z Z Z Sb.nil)) ?_
        refine vX (.int .i64 x69) (OpV.load Z isAgg3 Z (Pts.ofRow0 hx69)) ?_ (gT hg67)
        exact WO.nil Post1.mk
     refine Bd h63 fun r70 hr70 h63 => ?_
     refine WO.callD [] (OpC.fn call69 Z Z Z) (k_y _ _ _ _ _ hr70) ?_ (hg := (gT hg67))
     rintro _ _ ⟨rfl, rfl⟩
     refine aV (.int .i64 r70) [_, _, _] Z Z ?_
     refine Sg (gT hg67) Z (Pkg (gT hg66) hg67 Z (Pk hg66 Z (WO.nil ?_)))
     obtain rfl := Oi h63
     exact cutN (Lr [0, 1, 2])
    ·
     refine TC.draw 25 0 [33, 34, 35, 36, 37, 38, 39, 40, 41, 42, 43, 44, 45, 46, 47, 48, 49, 50, 51, 52, 53, 54, 55, 56, 57] [0, 0, 0, 0, 0, 0, 0, 0, 0, 0, 0, 0, 0, 0, 0, 0, 0, 0, 0, 0, 0, 0, 0, 0, 0] [false, false, false, false, false, false, false, false, false, false, false, false, false, false, false, false, false, false, false, false, false, false, false, false, false] [.ptr 0 1, .rsl 2 (List.map Mat.c a1.Mats), .osl 2 0 r1.length 1, .int .i64 s45, .ptr 2 (Int.toNat s45 * 1), .int .i64 x64, .rp [.str x65.Name, .int .i64 x65.Kind], .rp [.int .i64 x65.Kind], .int .i64 x65.Kind, .int .i64 b51, .bool (x65.Kind != b51), .bool (x65.Kind != b51), .int .i64 s45, .bool (decide (0 < s45)), .bool (decide (0 < s45)), .tup [], .tup [], .tup [], .tup [], .tup [], .tup [], .tup [], .tup [], .tup [], .tup []] [[.cells 33 (Course.c a1), .cells 62 (Distance.c a2), .row 3 1 (List.map (encI .i64) r1)]] ([.cells 33 (Course.c a1), .cells 62 (Distance.c a2), .row 3 1 (List.map (encI .i64) r1)]) draws Z Z Z Z Z Z Z Z ?_ ?_
     ·
      refine Ob.cons ?_ (Ob.cons ?_ (Ob.cons ?_ (Ob.cons ?_ (Ob.cons ?_ (Ob.cons ?_ (Ob.cons ?_ (Ob.cons ?_ (Ob.cons ?_ (Ob.cons ?_ (Ob.cons ?_ (Ob.cons ?_ (Ob.cons ?_ (Ob.cons ?_ (Ob.cons ?_ (Ob.cons ?_ (Ob.cons ?_ (Ob.cons ?_ (Ob.cons ?_ (Ob.cons ?_ (Ob.cons ?_ (Ob.cons ?_ (Ob.cons ?_ (Ob.cons ?_ (Ob.cons ?_ (Ob.nil)))))))))))))))))))))))))
      ·
        refine OB [(2, _)] 33 Z Z Z (Sb.old Z Z Sb.nil) ?_
        exact Fp fa_33_1 Z Wp
      ·
        refine OB [(33, _)] 34 Z Z Z (Sb.dep 0 Z Z Z Sb.nil) ?_
        exact Ld isAgg22 Z Wp
      ·
        refine OB [(5, _)] 35 Z Z Z (Sb.old Z Z Sb.nil) ?_
        exact S Z Wp
      ·
        refine OB [(7, _)] 36 Z Z Z (Sb.old Z Z Sb.nil) ?_
        exact S Z Wp
      ·
        refine OB [(35, _), (36, _)] 37 Z Z Z (Sb.dep 2 Z Z Z (Sb.dep 3 Z Z Z Sb.nil)) ?_
        refine vX (.ptr 2 (Int.toNat s45 * 1)) (OpV.ixW hx64 Z runUnderlying39 sizeOf3) ?_
        exact WO.nil Post1.mk
      ·
        refine OB [(37, _)] 38 Z Z Z (Sb.dep 4 Z Z Z Sb.nil) ?_
        refine vX (.int .i64 x64) (OpV.load Z isAgg3 Z (Pts.ofRow0 hx64)) ?_
        exact WO.nil Post1.mk
      ·
        refine OB [(34, _), (38, _)] 39 Z Z Z (Sb.dep 1 Z Z Z (Sb.dep 5 Z Z Z Sb.nil)) ?_
        exact Ix hx65 runUnderlying22 sizeOf107 Z Wp
      ·
        refine OB [(39, _)] 40 Z Z Z (Sb.dep 6 Z Z Z Sb.nil) ?_
        exact Fr fa_107_1 Z Wp
      ·
        refine OB [(40, _)] 41 Z Z Z (Sb.dep 7 Z Z Z Sb.nil) ?_
        exact Ld isAgg3 Z Wp
      ·
        refine OB [(8, _)] 42 Z Z Z (Sb.old Z Z Sb.nil) ?_
        exact S Z Wp
      ·
        refine OB [(41, _), (42, _)] 43 Z Z Z (Sb.dep 8 Z Z Z (Sb.dep 9 Z Z Z Sb.nil)) ?_
        exact S Z Wp
      ·
        refine OB [(43, _)] 44 Z Z Z (Sb.dep 10 Z Z Z Sb.nil) ?_
        exact S Z Wp
      ·
        refine OB [(7, _), (44, _)] 45 Z Z Z (Sb.old Z Z (Sb.dep 11 Z Z Z Sb.nil)) ?_
        exact Sg (gT hg66) Z Wp
      ·
        refine OB [(44, _), (45, _)] 46 Z Z Z (Sb.dep 11 Z Z Z (Sb.dep 12 Z Z Z Sb.nil)) ?_
        exact Sg (gT hg66) Z Wp
      ·
        refine OB [(44, _), (46, _)] 47 Z Z Z (Sb.dep 11 Z Z Z (Sb.dep 13 Z Z Z Sb.nil)) ?_
        exact Sg (gT hg66) Z Wp
      ·
        refine OB [(2, _), (47, _)] 48 Z Z Z (Sb.old Z Z (Sb.dep 14 Z Z Z Sb.nil)) ?_
        exact K (gF hg67) Z Wp
      ·
        refine OB [(5, _), (47, _)] 49 Z Z Z (Sb.old Z Z (Sb.dep 14 Z Z Z Sb.nil)) ?_
        exact K (gF hg67) Z Wp
      ·
        refine OB [(7, _), (47, _)] 50 Z Z Z (Sb.old Z Z (Sb.dep 14 Z Z Z Sb.nil)) ?_
        exact K (gF hg67) Z Wp
      ·
        refine OB [(47, _), (50, _)] 51 Z Z Z (Sb.dep 14 Z Z Z (Sb.dep 17 Z Z Z Sb.nil)) ?_
        exact K (gF hg67) Z Wp
      ·
        refine OB [(47, _), (49, _), (51, _)] 52 Z Z Z (Sb.dep 14 Z Z Z (Sb.dep 16 Z Z Z (Sb.dep 18 Z Z Z Sb.nil))) ?_
        exact K (gF hg67) Z Wp
      ·
        refine OB [(47, _), (52, _)] 53 Z Z Z (Sb.dep 14 Z Z Z (Sb.dep 19 Z Z Z Sb.nil)) ?_
        exact K (gF hg67) Z Wp
      ·
        refine OB [(5, _), (47, _)] 54 Z Z Z (Sb.old Z Z (Sb.dep 14 Z Z Z Sb.nil)) ?_
        exact K (gF hg67) Z Wp
      ·
        refine OB [(7, _), (47, _)] 55 Z Z Z (Sb.old Z Z (Sb.dep 14 Z Z Z Sb.nil)) ?_
        exact K (gF hg67) Z Wp
      ·
        refine OB [(47, _), (54, _), (55, _)] 56 Z Z Z (Sb.dep 14 Z Z Z (Sb.dep 21 Z Z Z (Sb.dep 22 Z Z Z Sb.nil))) ?_
        exact K (gF hg67) Z Wp
      ·
        refine OB [(47, _), (56, _)] 57 Z Z Z (Sb.dep 14 Z Z Z (Sb.dep 23 Z Z Z Sb.nil)) ?_
        exact K (gF hg67) Z Wp
     refine KF hg67 Z (KF hg67 Z (Pkg (gT hg66) hg67 Z (Pk hg66 Z (WO.nil ?_))))
     obtain rfl := Oi h63
     exact cutN (Lr [0, 1, 2])
  refine seqN (TC.le hle (Cn Z h47 (fun hc71 h47 => ?_) (fun hc71 h47 => ?_)))
  ·
   refine Rg (S Z (Nx (TC.ret (bloR (seqR (loopR h47 ?_))))))
   obtain rfl := hb44 _ (Oi h47).symm
   refine bloR (cutER (seqR ?_))
   obtain rfl := Oi h
   refine ⟨[(4, _)], _, _, ?_, ResOK.one Z Z, Z, Z⟩
   exact Lr []
  exact TC.skip (bloN (seqN (TC.region (S Z (S Z (S Z (WO.nil (loopN h47 (Lr [0, 1, 2])))))))))
 subst hbe
 refine seqN (TC.le hle (TC.seq (TC.seq (Bd h fun b78 h79 h => ?_))))
 refine TC.cut ([(3, .ptr 0 0), (5, .osl 1 0 r1.length 1), (90, .bool b78)]) ([.cells 62 (Distance.c a2), .row 3 1 (List.map (encI .i64) r1)]) ?_ (fun env H hle => ?_)
 ·
  refine TC.region (Fp fa_62_4 Z (Ld isAgg3 Z (S Z (S Z (If h79 (fun hg80 h79 => ?_) (fun hg80 h79 => ?_))))))
  ·
   refine Fpg (gT hg80) fa_33_1 Z (Ldg (gT hg80) isAgg22 Z (Fpg (gT hg80) fa_62_4 Z (Ldg (gT hg80) isAgg3 Z (Bd h79 fun x81 hx81 h79 => ?_))))
   refine vX (.rp [.str x81.Name, .int .i64 x81.Kind]) (OpV.ixM (e := Mat.c) (l := a1.Mats) (v := x81) hx81 runUnderlying22 sizeOf107) ?_ (gT hg80)
   refine Frg (gT hg80) fa_107_1 Z (Ldg (gT hg80) isAgg3 Z (Sg (gT hg80) Z (Sg (gT hg80) Z (If h79 (fun hg82 h79 => ?_) (fun hg82 h79 => ?_)))))
   ·
    refine KF hg82 Z (KF hg82 Z (KF hg82 Z (KF hg82 Z (KF hg82 Z (Pkg (gT hg80) hg82 Z (Sg (gT hg80) Z (KF Z Z (KF Z Z (KF Z Z (KF Z Z (KF Z Z (KF Z Z (KF Z Z (Sg (gT hg80) Z (Pk hg80 Z (WO.nil ?_))))))))))))))))
    obtain rfl := Oi h79
    exact cutN (Lr [1, 2])
   ·
    refine Sg (gT hg82) Z (Fpg (gT hg82) fa_62_4 Z (Ldg (gT hg82) isAgg3 Z (Bd h79 fun r83 hr83 h79 => ?_)))
    refine WO.callB (OpC.fn call70 rfl rfl rfl) (LookL.cons rfl (.inr ⟨_, _, _, _, _, rfl, rfl, List.length_map .., rfl⟩) (LookL.cons rfl (.inl ⟨rfl, rfl⟩) LookL.nil)) (k_ab _ _ _ _ hr83) (by rintro _ _ ⟨rfl, rfl⟩; rfl) ?_ (gT hg82)
    rintro _ _ ⟨rfl, rfl⟩
    refine aV (.int .i64 r83) [_, _, _] Z Z ?_
    refine Sg (gT hg82) Z (Pkg (gT hg80) hg82 Z (Sg (gT hg80) Z (If h79 (fun hg84 h79 => ?_) (fun hg84 h79 => ?_))))
    ·
     refine KF hg84 Z (KF hg84 Z (KF hg84 Z (KF hg84 Z (KF hg84 Z (KF hg84 Z (KF hg84 Z (Pkg (gT hg80) hg84 Z (Pk hg80 Z (WO.nil ?_)))))))))
     obtain rfl := Oi h79
     exact cutN (Lr [1, 2])
    ·
     refine vX (.agg (Course.c a1)) (OpV.loadA Z isAgg33 sizeOf33 Z (Pts.cells Z Z) Z Z) ?_ (gT hg84)
     refine Fpg (gT hg84) fa_62_4 Z (Ldg (gT hg84) isAgg3 Z (Fpg (gT hg84) fa_62_4 Z (Ldg (gT hg84) isAgg3 Z (Bd h79 fun r85 hr85 h79 => ?_))))
     refine WO.callD [] (OpC.fn call69 Z Z Z) (k_y _ _ _ _ _ hr85) ?_ (hg := (gT hg84))
     rintro _ _ ⟨rfl, rfl⟩
     refine aV (.int .i64 r85) [_, _, _] Z Z ?_
     refine Sg (gT hg84) Z (Pkg (gT hg80) hg84 Z (Pk hg80 Z (WO.nil ?_)))
     obtain rfl := Oi h79
     exact cutN (Lr [1, 2])
  ·
   refine KF hg80 Z (KF hg80 Z (KF hg80 Z (KF hg80 Z (KF hg80 Z (KF hg80 Z (KF hg80 Z (KF hg80 Z (KF hg80 Z (KU Z (KU Z (KU Z (KU Z (KU Z (KF hg80 Z (KF hg80 Z (KU Z (KU Z (KU Z (KU Z (KU Z (KU Z (KU Z (KF hg80 Z (Pk hg80 Z (WO.nil ?_)))))))))))))))))))))))))
   obtain rfl := Oi h79
   exact cutN (Lr [1, 2])
 refine seqN (TC.le hle (Cn Z h (fun hc86 h => ?_) (fun hc86 h => ?_)))
 ·
  refine Rg (S Z (Nx (RtR ?_)))
  obtain rfl := Oi h
  refine ⟨[(4, _)], _, _, ?_, ResOK.one Z Z, Z, Z⟩
  exact Lr []
 refine SkN (TC.seq (Rg (S Z (Nx (Bd h fun b98 h99 h => ?_)))))
 refine TC.cutE (b := b98) (fun sb98 => []) (fun sb98 => []) ?_ (fun sb98 env H hbe hle => ?_)
 ·
  refine TC.block ?_
  refine TC.loop (E := fun s101 => [(3, .ptr 0 0), (5, .osl 1 0 r1.length 1), (9, .int .i64 s101)]) (Hp := fun s101 => [.cells 62 (Distance.c a2), .row 3 1 (List.map (encI .i64) r1)]) h99 ?_ ?_
  ·
   exact Lr [0, 1]
  intro s101 d102 h103 hb100
  refine TC.seq (Rg (S Z (Fp fa_62_3 Z (Ld isAgg60 Z (LnM runUnderlying60 Z (S Z (Nx (CnS Z h103 (fun hc104 h103 => ?_) (fun hc104 h103 => ?_)))))))))
  ·
   refine ExX (loopX h103 ?_)
   obtain rfl := hb100 _ (Oi h103).symm
   exact bloE (cutEN Z (Lr []))
  refine SkN (TC.seq (TC.block (TC.seq ?_)))
  obtain ⟨x105, hx105, h103⟩ := bnd h103
  obtain ⟨r106, hr106, h103⟩ := bnd h103
  obtain ⟨x107, hx107, h103⟩ := bnd h103
  refine TC.draw 14 0 [98, 99, 100, 101, 102, 103, 104, 105, 106, 107, 108, 109, 110, 111] [0, 0, 0, 0, 0, 0, 0, 0, 0, 0, 0, 0, 0, 0] [false, false, false, false, false, false, false, false, false, false, false, false, false, false] [.osl 1 0 r1.length 1, .ptr 0 3, .rsl 3 (List.map Cutoff.c a2.Cutoffs), .int .i64 s101, .rp [.int .i64 x105.Mat, .int .i64 x105.Lap, .int .i64 x105.Limit], .rp [.int .i64 x105.Mat, .int .i64 x105.Lap, .int .i64 x105.Limit], .int .i64 x105.Mat, .int .i64 r106, .ptr 0 3, .rsl 3 (List.map Cutoff.c a2.Cutoffs), .int .i64 s101, .rp [.int .i64 x107.Mat, .int .i64 x107.Lap, .int .i64 x107.Limit], .rp [.int .i64 x107.Lap, .int .i64 x107.Limit], .int .i64 x107.Lap] [[.cells 62 (Distance.c a2), .row 3 1 (List.map (encI .i64) r1)]] ([.cells 62 (Distance.c a2), .row 3 1 (List.map (encI .i64) r1)]) draws Z Z Z Z Z Z Z Z ?_ ?_
  ·
   refine Ob.cons ?_ (Ob.cons ?_ (Ob.cons ?_ (Ob.cons ?_ (Ob.cons ?_ (Ob.cons ?_ (Ob.cons ?_ (Ob.cons ?_ (Ob.cons ?_ (Ob.cons ?_ (Ob.cons ?_ (Ob.cons ?_ (Ob.cons ?_ (Ob.cons ?_ (Ob.nil))))))))))))))
   ·
     refine OB [(5, _)] 98 Z Z Z (Sb.old Z Z Sb.nil) ?_
     exact S Z Wp
   ·
     refine OB [(3, _)] 99 Z Z Z (Sb.old Z Z Sb.nil) ?_
     exact Fp fa_62_3 Z Wp
   ·
     refine OB [(99, _)] 100 Z Z Z (Sb.dep 1 Z Z Z Sb.nil) ?_
     exact Ld isAgg60 Z Wp
   ·
     refine OB [(9, _)] 101 Z Z Z (Sb.old Z Z Sb.nil) ?_
     exact S Z Wp
   ·
     refine OB [(100, _), (101, _)] 102 Z Z Z (Sb.dep 2 Z Z Z (Sb.dep 3 Z Z Z Sb.nil)) ?_
     exact Ix hx105 runUnderlying60 sizeOf122 Z Wp
   ·
     refine OB [(102, _)] 103 Z Z Z (Sb.dep 4 Z Z Z Sb.nil) ?_
     exact Fr fa_122_0 Z Wp
   ·
     refine OB [(103, _)] 104 Z Z Z (Sb.dep 5 Z Z Z Sb.nil) ?_
     exact Ld isAgg3 Z Wp
   ·
     refine OB [(98, _), (104, _)] 105 Z Z Z (Sb.dep 0 Z Z Z (Sb.dep 6 Z Z Z Sb.nil)) ?_
     refine WO.callB (OpC.fn call70 rfl rfl rfl) (LookL.cons rfl (.inr ⟨_, _, _, _, _, rfl, rfl, List.length_map .., rfl⟩) (LookL.cons rfl (.inl ⟨rfl, rfl⟩) LookL.nil)) (k_ab _ _ _ _ hr106) (by rintro _ _ ⟨rfl, rfl⟩; rfl) ?_
     rintro _ _ ⟨rfl, rfl⟩
     refine aV (.int .i64 r106) [_, _] Z Z ?_
     exact WO.nil Post1.mk
   ·
     refine OB [(3, _)] 106 Z Z Z (Sb.old Z Z Sb.nil) ?_
     exact Fp fa_62_3 Z Wp
   ·
     refine OB [(106, _)] 107 Z Z Z (Sb.dep 8 Z Z Z Sb.nil) ?_
     exact Ld isAgg60 Z Wp
   ·
     refine OB [(9, _)] 108 Z Z Z (Sb.old Z Z Sb.nil) ?_
     exact S Z Wp
   ·
     refine OB [(107, _), (108, _)] 109 Z Z Z (Sb.dep 9 Z Z Z (Sb.dep 10 Z Z Z Sb.nil)) ?_
     exact Ix hx107 runUnderlying60 sizeOf122 Z Wp
   ·
     refine OB [(109, _)] 110 Z Z Z (Sb.dep 11 Z Z Z Sb.nil) ?_
     exact Fr fa_122_1 Z Wp
   ·
     refine OB [(110, _)] 111 Z Z Z (Sb.dep 12 Z Z Z Sb.nil) ?_
     exact Ld isAgg3 Z Wp
  refine S Z (Nx (Cn Z h103 (fun hc108 h103 => ?_) (fun hc108 h103 => ?_)))
  ·
   refine Rg (S Z (Nx (TC.ret (bloR (seqR (loopR h103 ?_))))))
   obtain rfl := hb100 _ (Oi h103).symm
   refine bloR (cutER (seqR ?_))
   obtain rfl := Oi h
   refine ⟨[(4, _)], _, _, ?_, ResOK.one Z Z, Z, Z⟩
   exact Lr []
  exact TC.skip (bloN (seqN (TC.region (S Z (S Z (S Z (WO.nil (loopN h103 (Lr [0, 1])))))))))
 subst hbe
 refine seqN (TC.le hle (Rg (S Z (Nx (TC.ret ?_)))))
 obtain rfl := Oi h
 refine ⟨[(4, _)], _, _, ?_, ResOK.one Z Z, Z, Z⟩
 exact Lr []
def F_gy (n : Nat) (a1 : Course) (s21 : Int) : Option (Ctl Int (Ctl Unit Int)) :=
  (bif decide (s21 < (a1.Distances.length : Int)) then (idx a1.Distances s21).bind fun x25 => (F_bh n a1 x25).bind fun r26 => (bif (!r26) then some (.done (.done 72)) else some (.cont (IntKind.i64.wrap (s21 + 1)))) else some (.done (.cont ())))
def F_at (n : Nat) (a1 : Course) : Option Int :=
  (F_cs n a1).bind fun r1 => (bif (!r1) then some 2 else (F_co n a1).bind fun r3 => (bif (!r3) then some 70 else (F_ax n a1).bind fun r5 => (bif (!r5) then some 71 else (F_bt n a1.Ties).bind fun r7 => (bif (r7 != 0) then some r7 else (iter (F_gy n a1) n 0 : Option (Ctl Unit Int)).bind fun b18 => match b18 with | .cont sb18 => (some 0) | .done sb18 => some sb18))))
theorem k_at (n : Nat) (a1 : Course) (r : Int) (h : F_at n a1 = some r) :
    C prog 21 [.agg (Course.c a1)] [] (fun a H => a = .int .i64 r ∧ H = []) := by
 refine C.of_body func21 Z Z Z ?_
 refine Rg ?_
 refine vH (OpH.box Z Z Z Z Z) ?_
 refine aV (.ptr 0 0) [.cells 33 (Course.c a1)] Z Z ?_
 refine S Z (Nx (TC.seq (Rg ?_)))
 refine vX (.agg (Course.c a1)) (OpV.loadA Z isAgg33 sizeOf33 Z (Pts.cells Z Z) Z Z) ?_
 refine Bd h fun r1 hr1 h => ?_
 refine WO.callD [] (OpC.fn call37 Z Z Z) (k_cs _ _ _ hr1) ?_
 rintro _ _ ⟨rfl, rfl⟩
 refine aV (.bool r1) [_] Z Z ?_
 refine S Z (Nx (Cn Z h (fun hc2 h => ?_) (fun hc2 h => ?_)))
 ·
  refine Rg (S Z (Nx (RtR ?_)))
  obtain rfl := Oi h
  refine ⟨[(2, _)], _, _, ?_, ResOK.one Z Z, Z, Z⟩
  exact Lr []
 refine SkN (TC.seq (Rg ?_))
 refine vX (.agg (Course.c a1)) (OpV.loadA Z isAgg33 sizeOf33 Z (Pts.cells Z Z) Z Z) ?_
 refine Bd h fun r3 hr3 h => ?_
 refine WO.callD [] (OpC.fn call38 Z Z Z) (k_co _ _ _ hr3) ?_
 rintro _ _ ⟨rfl, rfl⟩
 refine aV (.bool r3) [_] Z Z ?_
 refine S Z (Nx (Cn Z h (fun hc4 h => ?_) (fun hc4 h => ?_)))
 ·
  refine Rg (S Z (Nx (RtR ?_)))
  obtain rfl := Oi h
  refine ⟨[(2, _)], _, _, ?_, ResOK.one Z Z, Z, Z⟩
  exact Lr []
 refine SkN (TC.seq (Rg ?_))
 refine vX (.agg (Course.c a1)) (OpV.loadA Z isAgg33 sizeOf33 Z (Pts.cells Z Z) Z Z) ?_
 refine Bd h fun r5 hr5 h => ?_
 refine WO.callD [] (OpC.fn call39 Z Z Z) (k_ax _ _ _ hr5) ?_
 rintro _ _ ⟨rfl, rfl⟩
 refine aV (.bool r5) [_] Z Z ?_
 refine S Z (Nx (Cn Z h (fun hc6 h => ?_) (fun hc6 h => ?_)))
 ·
  refine Rg (S Z (Nx (RtR ?_)))
  obtain rfl := Oi h
  refine ⟨[(2, _)], _, _, ?_, ResOK.one Z Z, Z, Z⟩
  exact Lr []
 refine SkN (Rg (Fp fa_33_8 Z (Ld isAgg29 Z (Bd h fun r7 hr7 h => ?_))))
 refine WO.callD [] (OpC.fn call40 Z Z Z) (k_bt _ _ _ hr7) ?_
 rintro _ _ ⟨rfl, rfl⟩
 refine aV (.int .i64 r7) [_] Z Z ?_
 refine S Z (Nx (TC.seq (Rg (S Z (S Z (Nx (Cn Z h (fun hc8 h => ?_) (fun hc8 h => ?_))))))))
 ·
  refine Rg (S Z (S Z (Nx (RtR ?_))))
  obtain rfl := Oi h
  refine ⟨[(2, _)], _, _, ?_, ResOK.one Z Z, Z, Z⟩
  exact Lr []
 refine SkN (TC.seq (Rg (S Z (Nx (Bd h fun b18 h19 h => ?_)))))
 refine TC.cutE (b := b18) (fun sb18 => []) (fun sb18 => []) ?_ (fun sb18 env H hbe hle => ?_)
 ·
  refine TC.block ?_
  refine TC.loop (E := fun s21 => [(1, .ptr 0 0), (4, .int .i64 s21)]) (Hp := fun s21 => [.cells 33 (Course.c a1)]) h19 ?_ ?_
  ·
   exact Lr [0]
  intro s21 d22 h23 hb20
  refine TC.seq (Rg (S Z (Fp fa_33_3 Z (Ld isAgg24 Z (LnM runUnderlying24 Z (S Z (Nx (CnS Z h23 (fun hc24 h23 => ?_) (fun hc24 h23 => ?_)))))))))
  ·
   refine ExX (loopX h23 ?_)
   obtain rfl := hb20 _ (Oi h23).symm
   exact bloE (cutEN Z (Lr []))
  refine SkN (TC.seq (TC.block (TC.seq ?_)))
  obtain ⟨x25, hx25, h23⟩ := bnd h23
  refine TC.draw 6 0 [27, 28, 29, 30, 31, 32] [0, 0, 0, 0, 0, 0] [false, false, false, false, false, false] [.agg (Course.c a1), .ptr 0 3, .rsl 5 (List.map Distance.c a1.Distances), .int .i64 s21, .rp [.str x25.Name, .rsl 3 (List.map Part.enc x25.Route), .int .i64 x25.Timing, .rsl 3 (List.map Cutoff.c x25.Cutoffs), .int .i64 x25.Extra], .agg (Distance.c x25)] [[.cells 33 (Course.c a1)]] ([.cells 33 (Course.c a1)]) draws Z Z Z Z Z Z Z Z ?_ ?_
  ·
   refine Ob.cons ?_ (Ob.cons ?_ (Ob.cons ?_ (Ob.cons ?_ (Ob.cons ?_ (Ob.cons ?_ (Ob.nil))))))
   ·
     refine OB [(1, _)] 27 Z Z Z (Sb.old Z Z Sb.nil) ?_
     refine vX (.agg (Course.c a1)) (OpV.loadA Z isAgg33 sizeOf33 Z (Pts.cells Z Z) Z Z) ?_
     exact WO.nil Post1.mk
   ·
     refine OB [(1, _)] 28 Z Z Z (Sb.old Z Z Sb.nil) ?_
     exact Fp fa_33_3 Z Wp
   ·
     refine OB [(28, _)] 29 Z Z Z (Sb.dep 1 Z Z Z Sb.nil) ?_
     exact Ld isAgg24 Z Wp
   ·
     refine OB [(4, _)] 30 Z Z Z (Sb.old Z Z Sb.nil) ?_
     exact S Z Wp
   ·
     refine OB [(29, _), (30, _)] 31 Z Z Z (Sb.dep 2 Z Z Z (Sb.dep 3 Z Z Z Sb.nil)) ?_
     exact Ix hx25 runUnderlying24 sizeOf62 Z Wp
   ·
     refine OB [(31, _)] 32 Z Z Z (Sb.dep 4 Z Z Z Sb.nil) ?_
     refine vX (.agg (Distance.c x25)) (OpV.loadA Z isAgg62 sizeOf62 Z Pts.rp Z Z) ?_
     exact WO.nil Post1.mk
  refine Bd h23 fun r26 hr26 h23 => ?_
  refine WO.callD [] (OpC.fn call41 Z Z Z) (k_bh _ _ _ _ hr26) ?_
  rintro _ _ ⟨rfl, rfl⟩
  refine aV (.bool r26) [_] Z Z ?_
  refine S Z (Nx (Cn Z h23 (fun hc27 h23 => ?_) (fun hc27 h23 => ?_)))
  ·
   refine Rg (S Z (Nx (TC.ret (bloR (seqR (loopR h23 ?_))))))
   obtain rfl := hb20 _ (Oi h23).symm
   refine bloR (cutER (seqR ?_))
   obtain rfl := Oi h
   refine ⟨[(2, _)], _, _, ?_, ResOK.one Z Z, Z, Z⟩
   exact Lr []
  exact TC.skip (bloN (seqN (TC.region (S Z (S Z (S Z (WO.nil (loopN h23 (Lr [0])))))))))
 subst hbe
 refine seqN (TC.le hle (Rg (S Z (Nx (TC.ret ?_)))))
 obtain rfl := Oi h
 refine ⟨[(2, _)], _, _, ?_, ResOK.one Z Z, Z, Z⟩
 exact Lr []
def F_go (n : Nat) (a1 : Course) (a2 : List Starter) (r16 : (List Int) × (List Int)) (s224 : Int × Int) (s294 : Int × Int) : Option (Ctl (Int × Int) (Ctl Int (Ctl (Int × Int) (Ctl Int Bool)))) :=
  (bif decide (s294.2 < (a1.Categories.length : Int)) then ((F_ag n a1 a2 s224.2 s294.2).bind fun r314 => (bif (r314.2 != 0) then some (.done (.done (.done (.done (.done false))))) else (bif ((r314.1.length : Int) == 0) then some (.cont s294.1) else ((bif decide ((r16.1.length : Int) ≤ s294.1) then some true else (idx r16.1 s294.1).bind fun x324 => (bif (x324 != s224.2) then some true else (idx r16.2 s294.1).bind fun x326 => some (x326 != s294.2))) : Option Bool).bind fun b321 => (bif b321 then some (.done (.done (.done (.done (.done false))))) else some (.cont (IntKind.i64.wrap (s294.1 + 1)))))) : Option (Ctl Int (Ctl (Int × Int) (Ctl Int (Ctl (Int × Int) (Ctl Int Bool)))))).bind fun b312 => match b312 with | .cont sb312 => (some (.cont (sb312, IntKind.i64.wrap (s294.2 + 1)))) | .done sb312 => some sb312 else some (.done (.cont s294.1)))
def F_gm (n : Nat) (a1 : Course) (a2 : List Starter) (r16 : (List Int) × (List Int)) (s224 : Int × Int) : Option (Ctl (Int × Int) (Ctl Int Bool)) :=
  (bif decide (s224.2 < (a1.Distances.length : Int)) then (iter (F_go n a1 a2 r16 s224) n (s224.1, (-1)) : Option (Ctl Int (Ctl (Int × Int) (Ctl Int Bool)))).bind fun b291 => match b291 with | .cont sb291 => (some (.cont (sb291, IntKind.i64.wrap (s224.2 + 1)))) | .done sb291 => some sb291 else some (.done (.cont s224.1)))
def F_cw (n : Nat) (a1 : Course) (a2 : List Starter) : Option Bool :=
  (F_em 300).bind fun r1 => (bif (!r1) then some false else ((F_au n a1).bind fun r10 => (bif (!r10) then some true else (F_bl n a1 a2).bind fun r12 => (bif (!r12) then some true else (F_at n a1).bind fun r14 => some (r14 != 0))) : Option Bool).bind fun b8 => (bif b8 then some true else (F_aa n a1 a2).bind fun r16 => (bif ((r16.1.length : Int) != (r16.2.length : Int)) then some false else (iter (F_gm n a1 a2 r16) n (0, 0) : Option (Ctl Int Bool)).bind fun b221 => match b221 with | .cont sb221 => (some (sb221 == (r16.1.length : Int))) | .done sb221 => some sb221)))
theorem k_cw (n : Nat) (a1 : Course) (a2 : List Starter) (r : Bool) (h : F_cw n a1 a2 = some r) :
    C prog 5 [.agg (Course.c a1), .rsl 8 (List.map Starter.c a2)] [] (fun a H => a = .bool r ∧ H = []) := by
 refine C.of_body func5 Z Z Z ?_
 refine Rg ?_
 refine vH (OpH.box Z Z Z Z Z) ?_
 refine aV (.ptr 0 0) [.cells 33 (Course.c a1)] Z Z ?_
 refine S Z (Nx (TC.seq (Rg (Bd h fun r1 hr1 h => ?_))))
 refine WO.callD [] (OpC.fn call8 Z Z Z) (k_em _ _ hr1) ?_
 rintro _ _ ⟨rfl, rfl⟩
 refine aV (.bool r1) [_] Z Z ?_
 refine S Z (Nx (Cn Z h (fun hc2 h => ?_) (fun hc2 h => ?_)))
 ·
  refine Rg (S Z (Nx (RtR ?_)))
  obtain rfl := Oi h
  refine ⟨[(4, _)], _, _, ?_, ResOK.one Z Z, Z, Z⟩
  exact Lr []
 refine SkN (TC.seq (TC.seq (Bd h fun b8 h9 h => ?_)))
 refine TC.cut ([(1, .rsl 8 (List.map Starter.c a2)), (2, .ptr 0 0), (27, .bool b8)]) ([.cells 33 (Course.c a1)]) ?_ (fun env H hle => ?_)
 ·
  refine TC.region ?_
  refine vX (.agg (Course.c a1)) (OpV.loadA Z isAgg33 sizeOf33 Z (Pts.cells Z Z) Z Z) ?_
  refine Bd h9 fun r10 hr10 h9 => ?_
  refine WO.callD [] (OpC.fn call9 Z Z Z) (k_au _ _ _ hr10) ?_
  rintro _ _ ⟨rfl, rfl⟩
  refine aV (.bool r10) [_] Z Z ?_
  refine S Z (S Z (If h9 (fun hg11 h9 => ?_) (fun hg11 h9 => ?_)))
  ·
   refine KF hg11 Z (KF hg11 Z (KF hg11 Z (KF hg11 Z (Pk hg11 Z (S Z (KF Z Z (KF Z Z (KF Z Z (S Z (WO.nil ?_))))))))))
   obtain rfl := Oi h9
   exact cutN (Lr [0])
  ·
   refine vX (.agg (Course.c a1)) (OpV.loadA Z isAgg33 sizeOf33 Z (Pts.cells Z Z) Z Z) ?_ (gT hg11)
   refine Sg (gT hg11) Z (Bd h9 fun r12 hr12 h9 => ?_)
   refine WO.callD [] (OpC.fn call10 Z Z Z) (k_bl _ _ _ _ hr12) ?_ (hg := (gT hg11))
   rintro _ _ ⟨rfl, rfl⟩
   refine aV (.bool r12) [_] Z Z ?_
   refine Sg (gT hg11) Z (Pk hg11 Z (S Z (If h9 (fun hg13 h9 => ?_) (fun hg13 h9 => ?_))))
   ·
    refine KF hg13 Z (KF hg13 Z (KF hg13 Z (Pk hg13 Z (WO.nil ?_))))
    obtain rfl := Oi h9
    exact cutN (Lr [0])
   ·
    refine vX (.agg (Course.c a1)) (OpV.loadA Z isAgg33 sizeOf33 Z (Pts.cells Z Z) Z Z) ?_ (gT hg13)
    refine Bd h9 fun r14 hr14 h9 => ?_
    refine WO.callD [] (OpC.fn call21 Z Z Z) (k_at _ _ _ hr14) ?_ (hg := (gT hg13))
    rintro _ _ ⟨rfl, rfl⟩
    refine aV (.int .i64 r14) [_] Z Z ?_
    refine Sg (gT hg13) Z (Pk hg13 Z (WO.nil ?_))
    obtain rfl := Oi h9
    exact cutN (Lr [0])
 refine seqN (TC.le hle (Cn Z h (fun hc15 h => ?_) (fun hc15 h => ?_)))
 ·
  refine Rg (S Z (Nx (RtR ?_)))
  obtain rfl := Oi h
  refine ⟨[(4, _)], _, _, ?_, ResOK.one Z Z, Z, Z⟩
  exact Lr []
 refine SkN (Rg ?_)
 refine vX (.agg (Course.c a1)) (OpV.loadA Z isAgg33 sizeOf33 Z (Pts.cells Z Z) Z Z) ?_
 refine S Z (Bd h fun r16 hr16 h => ?_)
 refine WO.callD [] (OpC.fn call18 Z Z Z) (k_aa _ _ _ _ hr16) ?_
 rintro _ _ ⟨rfl, rfl⟩
 refine aV (.tup [.osl 1 0 r16.1.length 1, .osl 2 0 r16.2.length 1]) [_, .row 3 1 (List.map (encI .i64) r16.1), .row 3 1 (List.map (encI .i64) r16.2)] Z Z ?_
 refine S Z (S Z (S Z (S Z (S Z (Nx (TC.seq (Rg (S Z (LnO runUnderlying39 Z (S Z (LnO runUnderlying39 Z (S Z (Nx (Cn Z h (fun hc17 h => ?_) (fun hc17 h => ?_)))))))))))))))
 ·
  refine Rg (S Z (Nx (RtR ?_)))
  obtain rfl := Oi h
  refine ⟨[(4, _)], _, _, ?_, ResOK.one Z Z, Z, Z⟩
  exact Lr []
 refine SkN (Rg (S Z (Nx (TC.seq (Rg (S Z (Nx (Bd h fun b221 h222 h => ?_))))))))
 refine TC.cutE (b := b221) (fun sb221 => [(5, .osl 0 0 r16.1.length 1), (7, .int .i64 sb221)]) (fun sb221 => [.row 3 1 (List.map (encI .i64) r16.1)]) ?_ (fun sb221 env H hbe hle => ?_)
 ·
  refine TC.block ?_
  refine TC.loop (E := fun s224 => [(1, .rsl 8 (List.map Starter.c a2)), (2, .ptr 0 0), (5, .osl 1 0 r16.1.length 1), (6, .osl 2 0 r16.2.length 1), (7, .int .i64 s224.1), (8, .int .i64 s224.2)]) (Hp := fun s224 => [.cells 33 (Course.c a1), .row 3 1 (List.map (encI .i64) r16.1), .row 3 1 (List.map (encI .i64) r16.2)]) h222 ?_ ?_
  ·
   exact Lr [0, 1, 2]
  intro s224 d225 h226 hb223
  refine TC.seq (Rg (S Z (Fp fa_33_3 Z (Ld isAgg24 Z (LnM runUnderlying24 Z (S Z (Nx (CnS Z h226 (fun hc227 h226 => ?_) (fun hc227 h226 => ?_)))))))))
  ·
   refine ExX (loopX h226 ?_)
   obtain rfl := hb223 _ (Oi h226).symm
   exact bloE (cutEN Z (Lr [1]))
  refine SkN (TC.seq (TC.block (Rg (S Z (Nx (Bd h226 fun b291 h292 h226 => ?_))))))
  refine TC.cutE (b := b291) (fun sb291 => [(1, .rsl 8 (List.map Starter.c a2)), (2, .ptr 0 0), (5, .osl 1 0 r16.1.length 1), (6, .osl 2 0 r16.2.length 1), (7, .int .i64 sb291), (8, .int .i64 s224.2)]) (fun sb291 => [.cells 33 (Course.c a1), .row 3 1 (List.map (encI .i64) r16.1), .row 3 1 (List.map (encI .i64) r16.2)]) ?_ (fun sb291 env H hbe hle => ?_)
  ·
   refine TC.block ?_
   refine TC.loop (E := fun s294 => [(1, .rsl 8 (List.map Starter.c a2)), (2, .ptr 0 0), (5, .osl 1 0 r16.1.length 1), (6, .osl 2 0 r16.2.length 1), (7, .int .i64 s294.1), (8, .int .i64 s224.2), (9, .int .i64 s294.2)]) (Hp := fun s294 => [.cells 33 (Course.c a1), .row 3 1 (List.map (encI .i64) r16.1), .row 3 1 (List.map (encI .i64) r16.2)]) h292 ?_ ?_
   ·
    exact Lr [0, 1, 2]
   intro s294 d295 h296 hb293
   refine TC.seq (Rg (S Z (Fp fa_33_6 Z (Ld isAgg27 Z (LnM runUnderlying27 Z (S Z (Nx (CnS Z h296 (fun hc297 h296 => ?_) (fun hc297 h296 => ?_)))))))))
   ·
    refine ExX (loopX h296 ?_)
    obtain rfl := hb293 _ (Oi h296).symm
    exact bloE (cutEN Z (Lr [0, 1, 2]))
   refine SkN (TC.seq (Bd h296 fun b312 h313 h296 => ?_))
   refine TC.cutE (b := b312) (fun sb312 => [(1, .rsl 8 (List.map Starter.c a2)), (2, .ptr 0 0), (5, .osl 1 0 r16.1.length 1), (6, .osl 2 0 r16.2.length 1), (7, .int .i64 sb312), (8, .int .i64 s224.2), (9, .int .i64 s294.2)]) (fun sb312 => [.cells 33 (Course.c a1), .row 3 1 (List.map (encI .i64) r16.1), .row 3 1 (List.map (encI .i64) r16.2)]) ?_ (fun sb312 env H hb hle => ?_)
   ·
    refine TC.block (Rg ?_)
    refine vX (.agg (Course.c a1)) (OpV.loadA Z isAgg33 sizeOf33 Z (Pts.cells Z Z) Z Z) ?_
    refine S Z (S Z (S Z (Bd h313 fun r314 hr314 h313 => ?_)))
    refine WO.callD [] (OpC.fn call16 Z Z Z) (k_ag _ _ _ _ _ _ hr314) ?_
    rintro _ _ ⟨rfl, rfl⟩
    refine aV (.tup [.osl 3 0 r314.1.length 1, .int .i64 r314.2]) [_, _, _, .row 3 1 (List.map (encI .i64) r314.1)] Z Z ?_
    refine S Z (S Z (S Z (S Z (S Z (Nx (TC.seq (Rg (S Z (S Z (Nx (Cn Z h313 (fun hc315 h313 => ?_) (fun hc315 h313 => ?_))))))))))))
    ·
     refine Rg (S Z (Nx (RtR (bloR ?_))))
     obtain rfl := Oi h313
     refine cutER (seqR (loopR h296 ?_))
     obtain rfl := hb293 _ (Oi h296).symm
     refine bloR (cutER (bloR (seqR (loopR h226 ?_))))
     obtain rfl := hb223 _ (Oi h226).symm
     refine bloR (cutER (seqR ?_))
     obtain rfl := Oi h
     refine ⟨[(4, _)], _, _, ?_, ResOK.one Z Z, Z, Z⟩
     exact Lr []
    refine SkN (TC.seq (Rg (S Z (LnO runUnderlying39 Z (S Z (Nx (Cn Z h313 (fun hc316 h313 => ?_) (fun hc316 h313 => ?_))))))))
    ·
     refine ExX (bloE ?_)
     obtain rfl := Oi h313
     exact cutEN Z (Lr [0, 1, 2])
    refine SkN (TC.seq (TC.seq (Bd h313 fun b321 h322 h313 => ?_)))
    refine TC.cut ([(1, .rsl 8 (List.map Starter.c a2)), (2, .ptr 0 0), (5, .osl 1 0 r16.1.length 1), (6, .osl 2 0 r16.2.length 1), (7, .int .i64 s294.1), (8, .int .i64 s224.2), (9, .int .i64 s294.2), (85, .bool b321)]) ([.cells 33 (Course.c a1), .row 3 1 (List.map (encI .i64) r16.1), .row 3 1 (List.map (encI .i64) r16.2)]) ?_ (fun env H hle => ?_)
    ·
     refine TC.region (S Z (S Z (LnO runUnderlying39 Z (S Z (S Z (If h322 (fun hg323 h322 => ?_) (fun hg323 h322 => ?_)))))))
     ·
      refine KF hg323 Z (KF hg323 Z (KF hg323 Z (KF hg323 Z (KF hg323 Z (KF hg323 Z (Pk hg323 Z (S Z (KF Z Z (KF Z Z (KF Z Z (KF Z Z (KF Z Z (KF Z Z (S Z (WO.nil ?_)))))))))))))))
      obtain rfl := Oi h322
      exact cutN (Lr [0, 1, 2])
     ·
      refine Sg (gT hg323) Z (Sg (gT hg323) Z (Bd h322 fun x324 hx324 h322 => ?_))
      refine vX (.ptr 1 (Int.toNat s294.1 * 1)) (OpV.ixW hx324 Z runUnderlying39 sizeOf3) ?_ (gT hg323)
      refine vX (.int .i64 x324) (OpV.load Z isAgg3 Z (Pts.ofRow0 hx324)) ?_ (gT hg323)
      refine Sg (gT hg323) Z (Sg (gT hg323) Z (Pk hg323 Z (S Z (If h322 (fun hg325 h322 => ?_) (fun hg325 h322 => ?_)))))
      ·
       refine KF hg325 Z (KF hg325 Z (KF hg325 Z (KF hg325 Z (KF hg325 Z (KF hg325 Z (Pk hg325 Z (WO.nil ?_)))))))
       obtain rfl := Oi h322
       exact cutN (Lr [0, 1, 2])
      ·
       refine Sg (gT hg325) Z (Sg (gT hg325) Z (Bd h322 fun x326 hx326 h322 => ?_))
       refine vX (.ptr 2 (Int.toNat s294.1 * 1)) (OpV.ixW hx326 Z runUnderlying39 sizeOf3) ?_ (gT hg325)
       refine vX (.int .i64 x326) (OpV.load Z isAgg3 Z (Pts.ofRow0 hx326)) ?_ (gT hg325)
       refine Sg (gT hg325) Z (Sg (gT hg325) Z (Pk hg325 Z (WO.nil ?_)))
       obtain rfl := Oi h322
       exact cutN (Lr [0, 1, 2])
    refine seqN (TC.le hle (Cn Z h313 (fun hc327 h313 => ?_) (fun hc327 h313 => ?_)))
    ·
     refine Rg (S Z (Nx (RtR (bloR ?_))))
     obtain rfl := Oi h313
     refine cutER (seqR (loopR h296 ?_))
     obtain rfl := hb293 _ (Oi h296).symm
     refine bloR (cutER (bloR (seqR (loopR h226 ?_))))
     obtain rfl := hb223 _ (Oi h226).symm
     refine bloR (cutER (seqR ?_))
     obtain rfl := Oi h
     refine ⟨[(4, _)], _, _, ?_, ResOK.one Z Z, Z, Z⟩
     exact Lr []
    refine SkN (TC.region (S Z (S Z (S Z (WO.nil (bloN ?_))))))
    obtain rfl := Oi h313
    exact cutEN Z (Lr [0, 1, 2])
   subst hb
   exact seqN (TC.le hle (TC.region (S Z (S Z (S Z (WO.nil (loopN h296 (Lr [0, 1, 2]))))))))
  subst hbe
  exact bloN (seqN (TC.le hle (TC.region (S Z (S Z (S Z (WO.nil (loopN h226 (Lr [0, 1, 2])))))))))
 subst hbe
 refine seqN (TC.le hle (Rg (S Z (S Z (LnO runUnderlying39 Z (S Z (S Z (Nx (TC.ret ?_)))))))))
 obtain rfl := Oi h
 refine ⟨[(4, _)], _, _, ?_, ResOK.one Z Z, Z, Z⟩
 exact Lr []
end Go.Sw
