/- What the functions compute that CategoriesMembers reaches, and that their calls refine it (part 4 of 4). -/
import Derived.Test.YtjikdlekkmifhaaGreatW29Me3
set_option linter.unusedVariables false
set_option linter.unusedSimpArgs false
set_option maxRecDepth 100000
set_option maxHeartbeats 4000000
namespace Go.Sw
open Go.Proofs Tryz
def F_fd (n : Nat) (a1 : Course) (a2 : List Starter) (a3 : Int) (a4 : Int) (r12 : (List Int) × Int) (s234 : Int) (s294 : Bool × Int) : Option (Ctl (Bool × Int) Bool) :=
  (bif decide (s294.2 < (a2.length : Int)) then ((bif s294.1 then some true else (idx a2 s294.2).bind fun x313 => (idx r12.1 s234).bind fun x314 => (bif (x313.Bib == x314) then (idx a2 s294.2).bind fun x316 => (bif (x316.Distance == a3) then (bif (a4 == (-1)) then some true else (idx a1.Categories a4).bind fun x319 => (idx a2 s294.2).bind fun x320 => (bif decide (x319.From ≤ x320.Age) then (idx a2 s294.2).bind fun x322 => (idx a1.Categories a4).bind fun x323 => some (decide (x322.Age ≤ x323.To)) else some false)) else some false) else some false)) : Option Bool).bind fun b310 => some (.cont (b310, IntKind.i64.wrap (s294.2 + 1))) else some (.done s294.1))
def F_ey (n : Nat) (a1 : Course) (a2 : List Starter) (a3 : Int) (a4 : Int) (r12 : (List Int) × Int) (r13 : (List Int) × Int) (s234 : Int) : Option (Ctl Int (Ctl Unit Bool)) :=
  (bif decide (s234 < (r12.1.length : Int)) then (iter (F_fd n a1 a2 a3 a4 r12 s234) n (false, 0) : Option Bool).bind fun b291 => ((bif (!b291) then some true else (bif decide (0 < s234) then (idx r12.1 (IntKind.i64.wrap (s234 - 1))).bind fun x337 => (idx r12.1 s234).bind fun x338 => (bif decide (x338 ≤ x337) then some true else (idx r12.1 s234).bind fun x340 => (F_q n r13.1 x340).bind fun r341 => some (!r341)) else (idx r12.1 s234).bind fun x342 => (F_q n r13.1 x342).bind fun r343 => some (!r343))) : Option Bool).bind fun b333 => (bif b333 then some (.done (.done false)) else some (.cont (IntKind.i64.wrap (s234 + 1)))) else some (.done (.cont ())))
def F_ff (n : Nat) (a1 : Course) (a2 : List Starter) (a3 : Int) (a4 : Int) (r12 : (List Int) × Int) (s405 : Int) : Option (Ctl Int (Ctl Unit Bool)) :=
  (bif decide (s405 < (a2.length : Int)) then ((idx a2 s405).bind fun x419 => (bif (x419.Distance == a3) then (bif (a4 == (-1)) then some true else (idx a1.Categories a4).bind fun x422 => (idx a2 s405).bind fun x423 => (bif decide (x422.From ≤ x423.Age) then (idx a2 s405).bind fun x425 => (idx a1.Categories a4).bind fun x426 => some (decide (x425.Age ≤ x426.To)) else some false)) else some false) : Option Bool).bind fun b417 => ((bif b417 then (idx a2 s405).bind fun x433 => (F_q n r12.1 x433.Bib).bind fun r434 => some (!r434) else some false) : Option Bool).bind fun b430 => (bif b430 then some (.done (.done false)) else some (.cont (IntKind.i64.wrap (s405 + 1)))) else some (.done (.cont ())))
def F_dm (n : Nat) (a1 : Course) (a2 : List Starter) (a3 : Int) (a4 : Int) : Option Bool :=
  (F_ci 300).bind fun r1 => (bif (!r1) then some false else ((F_w n a1).bind fun r8 => (bif (!r8) then some true else (F_z n a1 a2).bind fun r10 => some (!r10)) : Option Bool).bind fun b6 => (bif b6 then some true else (F_t n a1 a2 a3 a4).bind fun r12 => (F_t n a1 a2 a3 (-1)).bind fun r13 => (bif (r12.2 != 0) then some ((r12.1.length : Int) == 0) else ((bif (r13.2 != 0) then some true else (bif decide (a3 < 0) then some true else (bif decide ((a1.Distances.length : Int) ≤ a3) then some true else (bif decide (a4 < (-1)) then some true else some (decide ((a1.Categories.length : Int) ≤ a4)))))) : Option Bool).bind fun b19 => (bif b19 then some false else (iter (F_ey n a1 a2 a3 a4 r12 r13) n 0 : Option (Ctl Unit Bool)).bind fun b231 => match b231 with | .cont sb231 => ((iter (F_ff n a1 a2 a3 a4 r12) n 0 : Option (Ctl Unit Bool)).bind fun b402 => match b402 with | .cont sb402 => (some true) | .done sb402 => some sb402) | .done sb231 => some sb231))))
theorem k_dm (n : Nat) (a1 : Course) (a2 : List Starter) (a3 : Int) (a4 : Int) (r : Bool) (h : F_dm n a1 a2 a3 a4 = some r) :
    C prog 4 [.agg (Course.c a1), .rsl 8 (List.map Starter.c a2), .int .i64 a3, .int .i64 a4] [] (fun a H => a = .bool r ∧ H = []) := by
 refine C.of_body func4 Z Z Z ?_
 refine Rg ?_
 refine vH (OpH.box Z Z Z Z Z) ?_
 refine aV (.ptr 0 0) [.cells 33 (Course.c a1)] Z Z ?_
 refine S Z (Nx (TC.seq (Rg (Bd h fun r1 hr1 h => ?_))))
 refine WO.callD [] (OpC.fn call8 Z Z Z) (k_ci _ _ hr1) ?_
 rintro _ _ ⟨rfl, rfl⟩
 refine aV (.bool r1) [_] Z Z ?_
 refine S Z (Nx (Cn Z h (fun hc2 h => ?_) (fun hc2 h => ?_)))
 ·
  refine Rg (S Z (Nx (RtR ?_)))
  obtain rfl := Oi h
  refine ⟨[(8, _)], _, _, ?_, ResOK.one Z Z, Z, Z⟩
  exact Lr []
 refine SkN (TC.seq (TC.seq (Bd h fun b6 h7 h => ?_)))
 refine TC.cut ([(1, .rsl 8 (List.map Starter.c a2)), (2, .int .i64 a3), (3, .int .i64 a4), (4, .ptr 0 0), (28, .bool b6)]) ([.cells 33 (Course.c a1)]) ?_ (fun env H hle => ?_)
 ·
  refine TC.region ?_
  refine vX (.agg (Course.c a1)) (OpV.loadA Z isAgg33 sizeOf33 Z (Pts.cells Z Z) Z Z) ?_
  refine Bd h7 fun r8 hr8 h7 => ?_
  refine WO.callD [] (OpC.fn call9 Z Z Z) (k_w _ _ _ hr8) ?_
  rintro _ _ ⟨rfl, rfl⟩
  refine aV (.bool r8) [_] Z Z ?_
  refine S Z (S Z (If h7 (fun hg9 h7 => ?_) (fun hg9 h7 => ?_)))
  ·
   refine KF hg9 Z (KF hg9 Z (KF hg9 Z (KF hg9 Z (Pk hg9 Z (WO.nil ?_)))))
   obtain rfl := Oi h7
   exact cutN (Lr [0])
  ·
   refine vX (.agg (Course.c a1)) (OpV.loadA Z isAgg33 sizeOf33 Z (Pts.cells Z Z) Z Z) ?_ (gT hg9)
   refine Sg (gT hg9) Z (Bd h7 fun r10 hr10 h7 => ?_)
   refine WO.callD [] (OpC.fn call10 Z Z Z) (k_z _ _ _ _ hr10) ?_ (hg := (gT hg9))
   rintro _ _ ⟨rfl, rfl⟩
   refine aV (.bool r10) [_] Z Z ?_
   refine Sg (gT hg9) Z (Pk hg9 Z (WO.nil ?_))
   obtain rfl := Oi h7
   exact cutN (Lr [0])
 refine seqN (TC.le hle (Cn Z h (fun hc11 h => ?_) (fun hc11 h => ?_)))
 ·
  refine Rg (S Z (Nx (RtR ?_)))
  obtain rfl := Oi h
  refine ⟨[(8, _)], _, _, ?_, ResOK.one Z Z, Z, Z⟩
  exact Lr []
 refine SkN (Rg ?_)
 refine vX (.agg (Course.c a1)) (OpV.loadA Z isAgg33 sizeOf33 Z (Pts.cells Z Z) Z Z) ?_
 refine S Z (S Z (S Z (Bd h fun r12 hr12 h => ?_)))
 refine WO.callD [] (OpC.fn call16 Z Z Z) (k_t _ _ _ _ _ _ hr12) ?_
 rintro _ _ ⟨rfl, rfl⟩
 refine aV (.tup [.osl 1 0 r12.1.length 1, .int .i64 r12.2]) [_, .row 3 1 (List.map (encI .i64) r12.1)] Z Z ?_
 refine S Z (S Z (S Z (S Z (S Z (Nx (Rg ?_))))))
 refine vX (.agg (Course.c a1)) (OpV.loadA Z isAgg33 sizeOf33 Z (Pts.cells Z Z) Z Z) ?_
 refine S Z (S Z (Bd h fun r13 hr13 h => ?_))
 refine WO.callD [] (OpC.fn call16 Z Z Z) (k_t _ _ _ _ _ _ hr13) ?_
 rintro _ _ ⟨rfl, rfl⟩
 refine aV (.tup [.osl 2 0 r13.1.length 1, .int .i64 r13.2]) [_, _, .row 3 1 (List.map (encI .i64) r13.1)] Z Z ?_
 refine S Z (S Z (S Z (S Z (S Z (Nx (TC.seq (Rg (S Z (S Z (Nx (Cn Z h (fun hc14 h => ?_) (fun hc14 h => ?_))))))))))))
 ·
  refine Rg (S Z (LnO runUnderlying39 Z (S Z (S Z (Nx (RtR ?_))))))
  obtain rfl := Oi h
  refine ⟨[(8, _)], _, _, ?_, ResOK.one Z Z, Z, Z⟩
  exact Lr []
 refine SkN (TC.seq (TC.seq (Bd h fun b19 h20 h => ?_)))
 refine TC.cut ([(1, .rsl 8 (List.map Starter.c a2)), (2, .int .i64 a3), (3, .int .i64 a4), (4, .ptr 0 0), (9, .osl 1 0 r12.1.length 1), (11, .osl 2 0 r13.1.length 1), (72, .bool b19)]) ([.cells 33 (Course.c a1), .row 3 1 (List.map (encI .i64) r12.1), .row 3 1 (List.map (encI .i64) r13.1)]) ?_ (fun env H hle => ?_)
 ·
  refine TC.region (S Z (S Z (S Z (If h20 (fun hg21 h20 => ?_) (fun hg21 h20 => ?_)))))
  ·
   refine KF hg21 Z (KF hg21 Z (Pk hg21 Z (S Z (KF Z Z (KF Z Z (KF Z Z (KF Z Z (KF Z Z (S Z (S Z (KF Z Z (KF Z Z (S Z (S Z (KF Z Z (KF Z Z (KF Z Z (KF Z Z (KF Z Z (S Z (WO.nil ?_)))))))))))))))))))))
   obtain rfl := Oi h20
   exact cutN (Lr [0, 1, 2])
  ·
   refine Sg (gT hg21) Z (Sg (gT hg21) Z (Pk hg21 Z (S Z (If h20 (fun hg22 h20 => ?_) (fun hg22 h20 => ?_)))))
   ·
    refine KF hg22 Z (KF hg22 Z (KF hg22 Z (KF hg22 Z (KF hg22 Z (Pk hg22 Z (S Z (KF Z Z (KF Z Z (S Z (S Z (KF Z Z (KF Z Z (KF Z Z (KF Z Z (KF Z Z (S Z (WO.nil ?_)))))))))))))))))
    obtain rfl := Oi h20
    exact cutN (Lr [0, 1, 2])
   ·
    refine Sg (gT hg22) Z (Fpg (gT hg22) fa_33_3 Z (Ldg (gT hg22) isAgg24 Z ?_))
    refine vX (.int .i64 (a1.Distances.length : Int)) (OpV.lenM (e := Distance.c) (l := a1.Distances) runUnderlying24) ?_ (gT hg22)
    refine Sg (gT hg22) Z (Pk hg22 Z (S Z (If h20 (fun hg23 h20 => ?_) (fun hg23 h20 => ?_))))
    ·
     refine KF hg23 Z (KF hg23 Z (Pk hg23 Z (S Z (KF Z Z (KF Z Z (KF Z Z (KF Z Z (KF Z Z (S Z (WO.nil ?_))))))))))
     obtain rfl := Oi h20
     exact cutN (Lr [0, 1, 2])
    ·
     refine Sg (gT hg23) Z (Sg (gT hg23) Z (Pk hg23 Z (S Z (If h20 (fun hg24 h20 => ?_) (fun hg24 h20 => ?_)))))
     ·
      refine KF hg24 Z (KF hg24 Z (KF hg24 Z (KF hg24 Z (KF hg24 Z (Pk hg24 Z (WO.nil ?_))))))
      obtain rfl := Oi h20
      exact cutN (Lr [0, 1, 2])
     ·
      refine Sg (gT hg24) Z (Fpg (gT hg24) fa_33_6 Z (Ldg (gT hg24) isAgg27 Z ?_))
      refine vX (.int .i64 (a1.Categories.length : Int)) (OpV.lenM (e := Category.c) (l := a1.Categories) runUnderlying27) ?_ (gT hg24)
      refine Sg (gT hg24) Z (Pk hg24 Z (WO.nil ?_))
      obtain rfl := Oi h20
      exact cutN (Lr [0, 1, 2])
 refine seqN (TC.le hle (Cn Z h (fun hc25 h => ?_) (fun hc25 h => ?_)))
 ·
  refine Rg (S Z (Nx (RtR ?_)))
  obtain rfl := Oi h
  refine ⟨[(8, _)], _, _, ?_, ResOK.one Z Z, Z, Z⟩
  exact Lr []
 refine SkN (TC.seq (Rg (S Z (Nx (Bd h fun b231 h232 h => ?_)))))
 refine TC.cutE (b := b231) (fun sb231 => [(1, .rsl 8 (List.map Starter.c a2)), (2, .int .i64 a3), (3, .int .i64 a4), (4, .ptr 0 0), (9, .osl 1 0 r12.1.length 1)]) (fun sb231 => [.cells 33 (Course.c a1), .row 3 1 (List.map (encI .i64) r12.1)]) ?_ (fun sb231 env H hbe hle => ?_)
 ·
  refine TC.block ?_
  refine TC.loop (E := fun s234 => [(1, .rsl 8 (List.map Starter.c a2)), (2, .int .i64 a3), (3, .int .i64 a4), (4, .ptr 0 0), (9, .osl 1 0 r12.1.length 1), (11, .osl 2 0 r13.1.length 1), (13, .int .i64 s234)]) (Hp := fun s234 => [.cells 33 (Course.c a1), .row 3 1 (List.map (encI .i64) r12.1), .row 3 1 (List.map (encI .i64) r13.1)]) h232 ?_ ?_
  ·
   exact Lr [0, 1, 2]
  intro s234 d235 h236 hb233
  refine TC.seq (Rg (S Z (S Z (LnO runUnderlying39 Z (S Z (Nx (CnS Z h236 (fun hc237 h236 => ?_) (fun hc237 h236 => ?_))))))))
  ·
   refine ExX (loopX h236 ?_)
   obtain rfl := hb233 _ (Oi h236).symm
   exact bloE (cutEN Z (Lr [0, 1]))
  refine SkN (TC.seq (TC.block (Rg (S Z (Nx (TC.seq (Rg (S Z (Nx (Bd h236 fun b291 h292 h236 => ?_))))))))))
  refine TC.cut ([(1, .rsl 8 (List.map Starter.c a2)), (2, .int .i64 a3), (3, .int .i64 a4), (4, .ptr 0 0), (9, .osl 1 0 r12.1.length 1), (11, .osl 2 0 r13.1.length 1), (13, .int .i64 s234), (14, .bool b291)]) ([.cells 33 (Course.c a1), .row 3 1 (List.map (encI .i64) r12.1), .row 3 1 (List.map (encI .i64) r13.1)]) ?_ (fun env H hle => ?_)
  ·
   refine TC.block ?_
   refine TC.loop (E := fun s294 => [(1, .rsl 8 (List.map Starter.c a2)), (2, .int .i64 a3), (3, .int .i64 a4), (4, .ptr 0 0), (9, .osl 1 0 r12.1.length 1), (11, .osl 2 0 r13.1.length 1), (13, .int .i64 s234), (14, .bool s294.1), (15, .int .i64 s294.2)]) (Hp := fun s294 => [.cells 33 (Course.c a1), .row 3 1 (List.map (encI .i64) r12.1), .row 3 1 (List.map (encI .i64) r13.1)]) h292 ?_ ?_
   ·
    exact Lr [0, 1, 2]
   intro s294 d295 h296 hb293
   refine TC.seq (Rg (S Z (S Z (LnM runUnderlying34 Z (S Z (Nx (CnS Z h296 (fun hc297 h296 => ?_) (fun hc297 h296 => ?_))))))))
   ·
    refine ExX (loopX h296 ?_)
    obtain rfl := hb293 _ (Oi h296).symm
    exact bloE (cutN (Lr [0, 1, 2]))
   refine SkN (TC.seq (TC.block (Bd h296 fun b310 h311 h296 => ?_)))
   refine TC.cut ([(1, .rsl 8 (List.map Starter.c a2)), (2, .int .i64 a3), (3, .int .i64 a4), (4, .ptr 0 0), (9, .osl 1 0 r12.1.length 1), (11, .osl 2 0 r13.1.length 1), (13, .int .i64 s234), (14, .bool b310), (15, .int .i64 s294.2)]) ([.cells 33 (Course.c a1), .row 3 1 (List.map (encI .i64) r12.1), .row 3 1 (List.map (encI .i64) r13.1)]) ?_ (fun env H hle => ?_)
   ·
    refine If h311 (fun hg312 h311 => ?_) (fun hg312 h311 => ?_)
    ·
     refine TC.draw 49 0 [85, 86, 87, 88, 89, 90, 91, 92, 93, 94, 95, 96, 97, 98, 99, 100, 101, 102, 103, 104, 105, 106, 107, 108, 109, 110, 111, 112, 113, 114, 115, 116, 117, 118, 119, 120, 121, 122, 123, 124, 125, 126, 127, 128, 129, 130, 131, 132, 133] [0, 0, 0, 0, 0, 0, 0, 0, 0, 0, 0, 0, 0, 0, 0, 0, 0, 0, 0, 0, 0, 0, 0, 0, 0, 0, 0, 0, 0, 0, 0, 0, 0, 0, 0, 0, 0, 0, 0, 0, 0, 0, 0, 0, 0, 0, 0, 0, 0] [false, false, false, false, false, false, false, false, false, false, false, false, false, false, false, false, false, false, false, false, false, false, false, false, false, false, false, false, false, false, false, false, false, false, false, false, false, false, false, false, false, false, false, false, false, false, false, false, false] [.bool s294.1, .bool s294.1, .tup [], .tup [], .tup [], .tup [], .tup [], .tup [], .tup [], .tup [], .tup [], .tup [], .tup [], .tup [], .tup [], .tup [], .tup [], .tup [], .tup [], .tup [], .tup [], .tup [], .tup [], .tup [], .tup [], .tup [], .tup [], .tup [], .tup [], .tup [], .tup [], .tup [], .tup [], .tup [], .tup [], .tup [], .tup [], .tup [], .tup [], .tup [], .tup [], .tup [], .tup [], .tup [], .tup [], .tup [], .tup [], .tup [], .tup []] [[.cells 33 (Course.c a1), .row 3 1 (List.map (encI .i64) r12.1), .row 3 1 (List.map (encI .i64) r13.1)]] ([.cells 33 (Course.c a1), .row 3 1 (List.map (encI .i64) r12.1), .row 3 1 (List.map (encI .i64) r13.1)]) draws Z Z Z Z Z Z Z Z ?_ ?_
     ·
      refine Ob.cons ?_ (Ob.cons ?_ (Ob.cons ?_ (Ob.cons ?_ (Ob.cons ?_ (Ob.cons ?_ (Ob.cons ?_ (Ob.cons ?_ (Ob.cons ?_ (Ob.cons ?_ (Ob.cons ?_ (Ob.cons ?_ (Ob.cons ?_ (Ob.cons ?_ (Ob.cons ?_ (Ob.cons ?_ (Ob.cons ?_ (Ob.cons ?_ (Ob.cons ?_ (Ob.cons ?_ (Ob.cons ?_ (Ob.cons ?_ (Ob.cons ?_ (Ob.cons ?_ (Ob.cons ?_ (Ob.cons ?_ (Ob.cons ?_ (Ob.cons ?_ (Ob.cons ?_ (Ob.cons ?_ (Ob.cons ?_ (Ob.cons ?_ (Ob.cons ?_ (Ob.cons ?_ (Ob.cons ?_ (Ob.cons ?_ (Ob.cons ?_ (Ob.cons ?_ (Ob.cons ?_ (Ob.cons ?_ (Ob.cons ?_ (Ob.cons ?_ (Ob.cons ?_ (Ob.cons ?_ (Ob.cons ?_ (Ob.cons ?_ (Ob.cons ?_ (Ob.cons ?_ (Ob.cons ?_ (Ob.nil)))))))))))))))))))))))))))))))))))))))))))))))))
      ·
        refine OB [(14, _)] 85 Z Z Z (Sb.old Z Z Sb.nil) ?_
        exact S Z Wp
      ·
        refine OB [(85, _)] 86 Z Z Z (Sb.dep 0 Z Z Z Sb.nil) ?_
        exact S Z Wp
      ·
        refine OB [(1, _), (86, _)] 87 Z Z Z (Sb.old Z Z (Sb.dep 1 Z Z Z Sb.nil)) ?_
        exact K (gF hg312) Z Wp
      ·
        refine OB [(15, _), (86, _)] 88 Z Z Z (Sb.old Z Z (Sb.dep 1 Z Z Z Sb.nil)) ?_
        exact K (gF hg312) Z Wp
      ·
        refine OB [(86, _), (87, _), (88, _)] 89 Z Z Z (Sb.dep 1 Z Z Z (Sb.dep 2 Z Z Z (Sb.dep 3 Z Z Z Sb.nil))) ?_
        exact K (gF hg312) Z Wp
      ·
        refine OB [(86, _), (89, _)] 90 Z Z Z (Sb.dep 1 Z Z Z (Sb.dep 4 Z Z Z Sb.nil)) ?_
        exact K (gF hg312) Z Wp
      ·
        refine OB [(86, _), (90, _)] 91 Z Z Z (Sb.dep 1 Z Z Z (Sb.dep 5 Z Z Z Sb.nil)) ?_
        exact K (gF hg312) Z Wp
      ·
        refine OB [(9, _), (86, _)] 92 Z Z Z (Sb.old Z Z (Sb.dep 1 Z Z Z Sb.nil)) ?_
        exact K (gF hg312) Z Wp
      ·
        refine OB [(13, _), (86, _)] 93 Z Z Z (Sb.old Z Z (Sb.dep 1 Z Z Z Sb.nil)) ?_
        exact K (gF hg312) Z Wp
      ·
        refine OB [(86, _), (92, _), (93, _)] 94 Z Z Z (Sb.dep 1 Z Z Z (Sb.dep 7 Z Z Z (Sb.dep 8 Z Z Z Sb.nil))) ?_
        exact K (gF hg312) Z Wp
      ·
        refine OB [(86, _), (94, _)] 95 Z Z Z (Sb.dep 1 Z Z Z (Sb.dep 9 Z Z Z Sb.nil)) ?_
        exact K (gF hg312) Z Wp
      ·
        refine OB [(86, _), (91, _), (95, _)] 96 Z Z Z (Sb.dep 1 Z Z Z (Sb.dep 6 Z Z Z (Sb.dep 10 Z Z Z Sb.nil))) ?_
        exact K (gF hg312) Z Wp
      ·
        refine OB [(86, _), (96, _)] 97 Z Z Z (Sb.dep 1 Z Z Z (Sb.dep 11 Z Z Z Sb.nil)) ?_
        exact K (gF hg312) Z Wp
      ·
        refine OB [(1, _), (97, _)] 98 Z Z Z (Sb.old Z Z (Sb.dep 12 Z Z Z Sb.nil)) ?_
        exact K gU Z Wp
      ·
        refine OB [(15, _), (97, _)] 99 Z Z Z (Sb.old Z Z (Sb.dep 12 Z Z Z Sb.nil)) ?_
        exact K gU Z Wp
      ·
        refine OB [(97, _), (98, _), (99, _)] 100 Z Z Z (Sb.dep 12 Z Z Z (Sb.dep 13 Z Z Z (Sb.dep 14 Z Z Z Sb.nil))) ?_
        exact K gU Z Wp
      ·
        refine OB [(97, _), (100, _)] 101 Z Z Z (Sb.dep 12 Z Z Z (Sb.dep 15 Z Z Z Sb.nil)) ?_
        exact K gU Z Wp
      ·
        refine OB [(97, _), (101, _)] 102 Z Z Z (Sb.dep 12 Z Z Z (Sb.dep 16 Z Z Z Sb.nil)) ?_
        exact K gU Z Wp
      ·
        refine OB [(2, _), (97, _)] 103 Z Z Z (Sb.old Z Z (Sb.dep 12 Z Z Z Sb.nil)) ?_
        exact K gU Z Wp
      ·
        refine OB [(97, _), (102, _), (103, _)] 104 Z Z Z (Sb.dep 12 Z Z Z (Sb.dep 17 Z Z Z (Sb.dep 18 Z Z Z Sb.nil))) ?_
        exact K gU Z Wp
      ·
        refine OB [(86, _), (97, _), (104, _)] 105 Z Z Z (Sb.dep 1 Z Z Z (Sb.dep 12 Z Z Z (Sb.dep 19 Z Z Z Sb.nil))) ?_
        exact K (gF hg312) Z Wp
      ·
        refine OB [(86, _), (105, _)] 106 Z Z Z (Sb.dep 1 Z Z Z (Sb.dep 20 Z Z Z Sb.nil)) ?_
        exact K (gF hg312) Z Wp
      ·
        refine OB [(3, _), (106, _)] 107 Z Z Z (Sb.old Z Z (Sb.dep 21 Z Z Z Sb.nil)) ?_
        exact K gU Z Wp
      ·
        refine OB [(106, _), (107, _)] 108 Z Z Z (Sb.dep 21 Z Z Z (Sb.dep 22 Z Z Z Sb.nil)) ?_
        exact K gU Z Wp
      ·
        refine OB [(106, _), (108, _)] 109 Z Z Z (Sb.dep 21 Z Z Z (Sb.dep 23 Z Z Z Sb.nil)) ?_
        exact K gU Z Wp
      ·
        refine OB [(4, _), (109, _)] 110 Z Z Z (Sb.old Z Z (Sb.dep 24 Z Z Z Sb.nil)) ?_
        exact K gU Z Wp
      ·
        refine OB [(109, _), (110, _)] 111 Z Z Z (Sb.dep 24 Z Z Z (Sb.dep 25 Z Z Z Sb.nil)) ?_
        exact K gU Z Wp
      ·
        refine OB [(3, _), (109, _)] 112 Z Z Z (Sb.old Z Z (Sb.dep 24 Z Z Z Sb.nil)) ?_
        exact K gU Z Wp
      ·
        refine OB [(109, _), (111, _), (112, _)] 113 Z Z Z (Sb.dep 24 Z Z Z (Sb.dep 26 Z Z Z (Sb.dep 27 Z Z Z Sb.nil))) ?_
        exact K gU Z Wp
      ·
        refine OB [(109, _), (113, _)] 114 Z Z Z (Sb.dep 24 Z Z Z (Sb.dep 28 Z Z Z Sb.nil)) ?_
        exact K gU Z Wp
      ·
        refine OB [(109, _), (114, _)] 115 Z Z Z (Sb.dep 24 Z Z Z (Sb.dep 29 Z Z Z Sb.nil)) ?_
        exact K gU Z Wp
      ·
        refine OB [(1, _), (109, _)] 116 Z Z Z (Sb.old Z Z (Sb.dep 24 Z Z Z Sb.nil)) ?_
        exact K gU Z Wp
      ·
        refine OB [(15, _), (109, _)] 117 Z Z Z (Sb.old Z Z (Sb.dep 24 Z Z Z Sb.nil)) ?_
        exact K gU Z Wp
      ·
        refine OB [(109, _), (116, _), (117, _)] 118 Z Z Z (Sb.dep 24 Z Z Z (Sb.dep 31 Z Z Z (Sb.dep 32 Z Z Z Sb.nil))) ?_
        exact K gU Z Wp
      ·
        refine OB [(109, _), (118, _)] 119 Z Z Z (Sb.dep 24 Z Z Z (Sb.dep 33 Z Z Z Sb.nil)) ?_
        exact K gU Z Wp
      ·
        refine OB [(109, _), (119, _)] 120 Z Z Z (Sb.dep 24 Z Z Z (Sb.dep 34 Z Z Z Sb.nil)) ?_
        exact K gU Z Wp
      ·
        refine OB [(109, _), (115, _), (120, _)] 121 Z Z Z (Sb.dep 24 Z Z Z (Sb.dep 30 Z Z Z (Sb.dep 35 Z Z Z Sb.nil))) ?_
        exact K gU Z Wp
      ·
        refine OB [(109, _), (121, _)] 122 Z Z Z (Sb.dep 24 Z Z Z (Sb.dep 36 Z Z Z Sb.nil)) ?_
        exact K gU Z Wp
      ·
        refine OB [(1, _), (122, _)] 123 Z Z Z (Sb.old Z Z (Sb.dep 37 Z Z Z Sb.nil)) ?_
        exact K gU Z Wp
      ·
        refine OB [(15, _), (122, _)] 124 Z Z Z (Sb.old Z Z (Sb.dep 37 Z Z Z Sb.nil)) ?_
        exact K gU Z Wp
      ·
        refine OB [(122, _), (123, _), (124, _)] 125 Z Z Z (Sb.dep 37 Z Z Z (Sb.dep 38 Z Z Z (Sb.dep 39 Z Z Z Sb.nil))) ?_
        exact K gU Z Wp
      ·
        refine OB [(122, _), (125, _)] 126 Z Z Z (Sb.dep 37 Z Z Z (Sb.dep 40 Z Z Z Sb.nil)) ?_
        exact K gU Z Wp
      ·
        refine OB [(122, _), (126, _)] 127 Z Z Z (Sb.dep 37 Z Z Z (Sb.dep 41 Z Z Z Sb.nil)) ?_
        exact K gU Z Wp
      ·
        refine OB [(4, _), (122, _)] 128 Z Z Z (Sb.old Z Z (Sb.dep 37 Z Z Z Sb.nil)) ?_
        exact K gU Z Wp
      ·
        refine OB [(122, _), (128, _)] 129 Z Z Z (Sb.dep 37 Z Z Z (Sb.dep 43 Z Z Z Sb.nil)) ?_
        exact K gU Z Wp
      ·
        refine OB [(3, _), (122, _)] 130 Z Z Z (Sb.old Z Z (Sb.dep 37 Z Z Z Sb.nil)) ?_
        exact K gU Z Wp
      ·
        refine OB [(122, _), (129, _), (130, _)] 131 Z Z Z (Sb.dep 37 Z Z Z (Sb.dep 44 Z Z Z (Sb.dep 45 Z Z Z Sb.nil))) ?_
        exact K gU Z Wp
      ·
        refine OB [(122, _), (131, _)] 132 Z Z Z (Sb.dep 37 Z Z Z (Sb.dep 46 Z Z Z Sb.nil)) ?_
        exact K gU Z Wp
      ·
        refine OB [(122, _), (132, _)] 133 Z Z Z (Sb.dep 37 Z Z Z (Sb.dep 47 Z Z Z Sb.nil)) ?_
        exact K gU Z Wp
     refine KU Z (KU Z (KU Z (KF hg312 Z (Pk hg312 Z (S Z (WO.nil ?_))))))
     obtain rfl := Oi h311
     exact cutN (Lr [0, 1, 2])
    ·
     obtain ⟨x313, hx313, h311⟩ := bnd h311
     obtain ⟨x314, hx314, h311⟩ := bnd h311
     refine If h311 (fun hg315 h311 => ?_) (fun hg315 h311 => ?_)
     ·
      obtain ⟨x316, hx316, h311⟩ := bnd h311
      refine If h311 (fun hg317 h311 => ?_) (fun hg317 h311 => ?_)
      ·
       refine If h311 (fun hg318 h311 => ?_) (fun hg318 h311 => ?_)
       ·
        refine TC.draw 49 0 [85, 86, 87, 88, 89, 90, 91, 92, 93, 94, 95, 96, 97, 98, 99, 100, 101, 102, 103, 104, 105, 106, 107, 108, 109, 110, 111, 112, 113, 114, 115, 116, 117, 118, 119, 120, 121, 122, 123, 124, 125, 126, 127, 128, 129, 130, 131, 132, 133] [0, 0, 0, 0, 0, 0, 0, 0, 0, 0, 0, 0, 0, 0, 0, 0, 0, 0, 0, 0, 0, 0, 0, 0, 0, 0, 0, 0, 0, 0, 0, 0, 0, 0, 0, 0, 0, 0, 0, 0, 0, 0, 0, 0, 0, 0, 0, 0, 0] [false, false, false, false, false, false, false, false, false, false, false, false, false, false, false, false, false, false, false, false, false, false, false, false, false, false, false, false, false, false, false, false, false, false, false, false, false, false, false, false, false, false, false, false, false, false, false, false, false] [.bool s294.1, .bool s294.1, .rsl 8 (List.map Starter.c a2), .int .i64 s294.2, .rp [.int .i64 x313.Bib, .int .i64 x313.Distance, .int .i64 x313.Wave, .int .i64 x313.Slot, .int .i64 x313.Age, .int .i64 x313.Chip, .int .i64 x313.Team, .int .i64 x313.Lot], .rp [.int .i64 x313.Bib, .int .i64 x313.Distance, .int .i64 x313.Wave, .int .i64 x313.Slot, .int .i64 x313.Age, .int .i64 x313.Chip, .int .i64 x313.Team, .int .i64 x313.Lot], .int .i64 x313.Bib, .osl 1 0 r12.1.length 1, .int .i64 s234, .ptr 1 (Int.toNat s234 * 1), .int .i64 x314, .bool (x313.Bib == x314), .bool (x313.Bib == x314), .rsl 8 (List.map Starter.c a2), .int .i64 s294.2, .rp [.int .i64 x316.Bib, .int .i64 x316.Distance, .int .i64 x316.Wave, .int .i64 x316.Slot, .int .i64 x316.Age, .int .i64 x316.Chip, .int .i64 x316.Team, .int .i64 x316.Lot], .rp [.int .i64 x316.Distance, .int .i64 x316.Wave, .int .i64 x316.Slot, .int .i64 x316.Age, .int .i64 x316.Chip, .int .i64 x316.Team, .int .i64 x316.Lot], .int .i64 x316.Distance, .int .i64 a3, .bool (x316.Distance == a3), .bool (x316.Distance == a3), .bool (x316.Distance == a3), .int .i64 a4, .bool (a4 == (-1)), .bool (a4 == (-1)), .tup [], .tup [], .tup [], .tup [], .tup [], .tup [], .tup [], .tup [], .tup [], .tup [], .tup [], .tup [], .tup [], .tup [], .tup [], .tup [], .tup [], .tup [], .tup [], .tup [], .tup [], .tup [], .tup [], .tup []] [[.cells 33 (Course.c a1), .row 3 1 (List.map (encI .i64) r12.1), .row 3 1 (List.map (encI .i64) r13.1)]] ([.cells 33 (Course.c a1), .row 3 1 (List.map (encI .i64) r12.1), .row 3 1 (List.map (encI .i64) r13.1)]) draws Z Z Z Z Z Z Z Z ?_ ?_
        ·
         refine Ob.cons ?_ (Ob.cons ?_ (Ob.cons ?_ (Ob.cons ?_ (Ob.cons ?_ (Ob.cons ?_ (Ob.cons ?_ (Ob.cons ?_ (Ob.cons ?_ (Ob.cons ?_ (Ob.cons ?_ (Ob.cons ?_ (Ob.cons ?_ (Ob.cons ?_ (Ob.cons ?_ (Ob.cons ?_ (Ob.cons ?_ (Ob.cons ?_ (Ob.cons ?_ (Ob.cons ?_ (Ob.cons ?_ (Ob.cons ?_ (Ob.cons ?_ (Ob.cons ?_ (Ob.cons ?_ (Ob.cons ?_ (Ob.cons ?_ (Ob.cons ?_ (Ob.cons ?_ (Ob.cons ?_ (Ob.cons ?_ (Ob.cons ?_ (Ob.cons ?_ (Ob.cons ?_ (Ob.cons ?_ (Ob.cons ?_ (Ob.cons ?_ (Ob.cons ?_ (Ob.cons ?_ (Ob.cons ?_ (Ob.cons ?_ (Ob.cons ?_ (Ob.cons ?_ (Ob.cons ?_ (Ob.cons ?_ (Ob.cons ?_ (Ob.cons ?_ (Ob.cons ?_ (Ob.cons ?_ (Ob.nil)))))))))))))))))))))))))))))))))))))))))))))))))
         ·
           refine OB [(14, _)] 85 Z Z Z (Sb.old Z Z Sb.nil) ?_
           exact S Z Wp
         ·
           refine OB [(85, _)] 86 Z Z Z (Sb.dep 0 Z Z Z Sb.nil) ?_
           exact S Z Wp
         ·
           refine OB [(1, _), (86, _)] 87 Z Z Z (Sb.old Z Z (Sb.dep 1 Z Z Z Sb.nil)) ?_
           exact Sg (gT hg312) Z Wp
         ·
           refine OB [(15, _), (86, _)] 88 Z Z Z (Sb.old Z Z (Sb.dep 1 Z Z Z Sb.nil)) ?_
           exact Sg (gT hg312) Z Wp
         ·
           refine OB [(86, _), (87, _), (88, _)] 89 Z Z Z (Sb.dep 1 Z Z Z (Sb.dep 2 Z Z Z (Sb.dep 3 Z Z Z Sb.nil))) ?_
           refine vX (.rp [.int .i64 x313.Bib, .int .i64 x313.Distance, .int .i64 x313.Wave, .int .i64 x313.Slot, .int .i64 x313.Age, .int .i64 x313.Chip, .int .i64 x313.Team, .int .i64 x313.Lot]) (OpV.ixM (e := Starter.c) (l := a2) (v := x313) hx313 runUnderlying34 sizeOf42) ?_ (gT hg312)
           exact WO.nil Post1.mk
         ·
           refine OB [(86, _), (89, _)] 90 Z Z Z (Sb.dep 1 Z Z Z (Sb.dep 4 Z Z Z Sb.nil)) ?_
           exact Frg (gT hg312) fa_42_0 Z Wp
         ·
           refine OB [(86, _), (90, _)] 91 Z Z Z (Sb.dep 1 Z Z Z (Sb.dep 5 Z Z Z Sb.nil)) ?_
           exact Ldg (gT hg312) isAgg3 Z Wp
         ·
           refine OB [(9, _), (86, _)] 92 Z Z Z (Sb.old Z Z (Sb.dep 1 Z Z Z Sb.nil)) ?_
           exact Sg (gT hg312) Z Wp
         ·
           refine OB [(13, _), (86, _)] 93 Z Z Z (Sb.old Z Z (Sb.dep 1 Z Z Z Sb.nil)) ?_
           exact Sg (gT hg312) Z Wp
         ·
           refine OB [(86, _), (92, _), (93, _)] 94 Z Z Z (Sb.dep 1 Z Z Z (Sb.dep 7 Z Z Z (Sb.dep 8 Z Z Z Sb.nil))) ?_
           refine vX (.ptr 1 (Int.toNat s234 * 1)) (OpV.ixW hx314 Z runUnderlying39 sizeOf3) ?_ (gT hg312)
           exact WO.nil Post1.mk
         ·
           refine OB [(86, _), (94, _)] 95 Z Z Z (Sb.dep 1 Z Z Z (Sb.dep 9 Z Z Z Sb.nil)) ?_
           refine vX (.int .i64 x314) (OpV.load Z isAgg3 Z (Pts.ofRow0 hx314)) ?_ (gT hg312)
           exact WO.nil Post1.mk
         ·
           refine OB [(86, _), (91, _), (95, _)] 96 Z Z Z (Sb.dep 1 Z Z Z (Sb.dep 6 Z Z Z (Sb.dep 10 Z Z Z Sb.nil))) ?_
           exact Sg (gT hg312) Z Wp
         ·
           refine OB [(86, _), (96, _)] 97 Z Z Z (Sb.dep 1 Z Z Z (Sb.dep 11 Z Z Z Sb.nil)) ?_
           exact Sg (gT hg312) Z Wp
         ·
           refine OB [(1, _), (97, _)] 98 Z Z Z (Sb.old Z Z (Sb.dep 12 Z Z Z Sb.nil)) ?_
           exact Sg (gT hg315) Z Wp
         ·
           refine OB [(15, _), (97, _)] 99 Z Z Z (Sb.old Z Z (Sb.dep 12 Z Z Z Sb.nil)) ?_
           exact Sg (gT hg315) Z Wp
         ·
           refine OB [(97, _), (98, _), (99, _)] 100 Z Z Z (Sb.dep 12 Z Z Z (Sb.dep 13 Z Z Z (Sb.dep 14 Z Z Z Sb.nil))) ?_
           refine vX (.rp [.int .i64 x316.Bib, .int .i64 x316.Distance, .int .i64 x316.Wave, .int .i64 x316.Slot, .int .i64 x316.Age, .int .i64 x316.Chip, .int .i64 x316.Team, .int .i64 x316.Lot]) (OpV.ixM (e := Starter.c) (l := a2) (v := x316) hx316 runUnderlying34 sizeOf42) ?_ (gT hg315)
           exact WO.nil Post1.mk
         ·
           refine OB [(97, _), (100, _)] 101 Z Z Z (Sb.dep 12 Z Z Z (Sb.dep 15 Z Z Z Sb.nil)) ?_
           exact Frg (gT hg315) fa_42_1 Z Wp
         ·
           refine OB [(97, _), (101, _)] 102 Z Z Z (Sb.dep 12 Z Z Z (Sb.dep 16 Z Z Z Sb.nil)) ?_
           exact Ldg (gT hg315) isAgg3 Z Wp
         ·
           refine OB [(2, _), (97, _)] 103 Z Z Z (Sb.old Z Z (Sb.dep 12 Z Z Z Sb.nil)) ?_
           exact Sg (gT hg315) Z Wp
         ·
           refine OB [(97, _), (102, _), (103, _)] 104 Z Z Z (Sb.dep 12 Z Z Z (Sb.dep 17 Z Z Z (Sb.dep 18 Z Z Z Sb.nil))) ?_
           exact Sg (gT hg315) Z Wp
         ·
           refine OB [(86, _), (97, _), (104, _)] 105 Z Z Z (Sb.dep 1 Z Z Z (Sb.dep 12 Z Z Z (Sb.dep 19 Z Z Z Sb.nil))) ?_
           exact Pkg (gT hg312) hg315 Z Wp
         ·
           refine OB [(86, _), (105, _)] 106 Z Z Z (Sb.dep 1 Z Z Z (Sb.dep 20 Z Z Z Sb.nil)) ?_
           exact Sg (gT hg312) Z Wp
         ·
           refine OB [(3, _), (106, _)] 107 Z Z Z (Sb.old Z Z (Sb.dep 21 Z Z Z Sb.nil)) ?_
           exact Sg (gT hg317) Z Wp
         ·
           refine OB [(106, _), (107, _)] 108 Z Z Z (Sb.dep 21 Z Z Z (Sb.dep 22 Z Z Z Sb.nil)) ?_
           exact Sg (gT hg317) Z Wp
         ·
           refine OB [(106, _), (108, _)] 109 Z Z Z (Sb.dep 21 Z Z Z (Sb.dep 23 Z Z Z Sb.nil)) ?_
           exact Sg (gT hg317) Z Wp
         ·
           refine OB [(4, _), (109, _)] 110 Z Z Z (Sb.old Z Z (Sb.dep 24 Z Z Z Sb.nil)) ?_
           exact K (gF hg318) Z Wp
         ·
           refine OB [(109, _), (110, _)] 111 Z Z Z (Sb.dep 24 Z Z Z (Sb.dep 25 Z Z Z Sb.nil)) ?_
           exact K (gF hg318) Z Wp
         ·
           refine OB [(3, _), (109, _)] 112 Z Z Z (Sb.old Z Z (Sb.dep 24 Z Z Z Sb.nil)) ?_
           exact K (gF hg318) Z Wp
         ·
           refine OB [(109, _), (111, _), (112, _)] 113 Z Z Z (Sb.dep 24 Z Z Z (Sb.dep 26 Z Z Z (Sb.dep 27 Z Z Z Sb.nil))) ?_
           exact K (gF hg318) Z Wp
         ·
           refine OB [(109, _), (113, _)] 114 Z Z Z (Sb.dep 24 Z Z Z (Sb.dep 28 Z Z Z Sb.nil)) ?_
           exact K (gF hg318) Z Wp
         ·
           refine OB [(109, _), (114, _)] 115 Z Z Z (Sb.dep 24 Z Z Z (Sb.dep 29 Z Z Z Sb.nil)) ?_
           exact K (gF hg318) Z Wp
         ·
           refine OB [(1, _), (109, _)] 116 Z Z Z (Sb.old Z Z (Sb.dep 24 Z Z Z Sb.nil)) ?_
           exact K (gF hg318) Z Wp
         ·
           refine OB [(15, _), (109, _)] 117 Z Z Z (Sb.old Z Z (Sb.dep 24 Z Z Z Sb.nil)) ?_
           exact K (gF hg318) Z Wp
         ·
           refine OB [(109, _), (116, _), (117, _)] 118 Z Z Z (Sb.dep 24 Z Z Z (Sb.dep 31 Z Z Z (Sb.dep 32 Z Z Z Sb.nil))) ?_
           exact K (gF hg318) Z Wp
         ·
           refine OB [(109, _), (118, _)] 119 Z Z Z (Sb.dep 24 Z Z Z (Sb.dep 33 Z Z Z Sb.nil)) ?_
           exact K (gF hg318) Z Wp
         ·
           refine OB [(109, _), (119, _)] 120 Z Z Z (Sb.dep 24 Z Z Z (Sb.dep 34 Z Z Z Sb.nil)) ?_
           exact K (gF hg318) Z Wp
         ·
           refine OB [(109, _), (115, _), (120, _)] 121 Z Z Z (Sb.dep 24 Z Z Z (Sb.dep 30 Z Z Z (Sb.dep 35 Z Z Z Sb.nil))) ?_
           exact K (gF hg318) Z Wp
         ·
           refine OB [(109, _), (121, _)] 122 Z Z Z (Sb.dep 24 Z Z Z (Sb.dep 36 Z Z Z Sb.nil)) ?_
           exact K (gF hg318) Z Wp
         ·
           refine OB [(1, _), (122, _)] 123 Z Z Z (Sb.old Z Z (Sb.dep 37 Z Z Z Sb.nil)) ?_
           exact K gU Z Wp
         ·
           refine OB [(15, _), (122, _)] 124 Z Z Z (Sb.old Z Z (Sb.dep 37 Z Z Z Sb.nil)) ?_
           exact K gU Z Wp
         ·
           refine OB [(122, _), (123, _), (124, _)] 125 Z Z Z (Sb.dep 37 Z Z Z (Sb.dep 38 Z Z Z (Sb.dep 39 Z Z Z Sb.nil))) ?_
           exact K gU Z Wp
         ·
           refine OB [(122, _), (125, _)] 126 Z Z Z (Sb.dep 37 Z Z Z (Sb.dep 40 Z Z Z Sb.nil)) ?_
           exact K gU Z Wp
         ·
           refine OB [(122, _), (126, _)] 127 Z Z Z (Sb.dep 37 Z Z Z (Sb.dep 41 Z Z Z Sb.nil)) ?_
           exact K gU Z Wp
         ·
           refine OB [(4, _), (122, _)] 128 Z Z Z (Sb.old Z Z (Sb.dep 37 Z Z Z Sb.nil)) ?_
           exact K gU Z Wp
         ·
           refine OB [(122, _), (128, _)] 129 Z Z Z (Sb.dep 37 Z Z Z (Sb.dep 43 Z Z Z Sb.nil)) ?_
           exact K gU Z Wp
         ·
           refine OB [(3, _), (122, _)] 130 Z Z Z (Sb.old Z Z (Sb.dep 37 Z Z Z Sb.nil)) ?_
           exact K gU Z Wp
         ·
           refine OB [(122, _), (129, _), (130, _)] 131 Z Z Z (Sb.dep 37 Z Z Z (Sb.dep 44 Z Z Z (Sb.dep 45 Z Z Z Sb.nil))) ?_
           exact K gU Z Wp
         ·
           refine OB [(122, _), (131, _)] 132 Z Z Z (Sb.dep 37 Z Z Z (Sb.dep 46 Z Z Z Sb.nil)) ?_
           exact K gU Z Wp
         ·
           refine OB [(122, _), (132, _)] 133 Z Z Z (Sb.dep 37 Z Z Z (Sb.dep 47 Z Z Z Sb.nil)) ?_
           exact K gU Z Wp
        refine KU Z (KF hg318 Z (Pkg (gT hg317) hg318 Z (Pkg (gT hg312) hg317 Z (Pk hg312 Z (S Z (WO.nil ?_))))))
        obtain rfl := Oi h311
        exact cutN (Lr [0, 1, 2])
       ·
        obtain ⟨x319, hx319, h311⟩ := bnd h311
        obtain ⟨x320, hx320, h311⟩ := bnd h311
        refine If h311 (fun hg321 h311 => ?_) (fun hg321 h311 => ?_)
        ·
         obtain ⟨x322, hx322, h311⟩ := bnd h311
         obtain ⟨x323, hx323, h311⟩ := bnd h311
         refine TC.draw 49 0 [85, 86, 87, 88, 89, 90, 91, 92, 93, 94, 95, 96, 97, 98, 99, 100, 101, 102, 103, 104, 105, 106, 107, 108, 109, 110, 111, 112, 113, 114, 115, 116, 117, 118, 119, 120, 121, 122, 123, 124, 125, 126, 127, 128, 129, 130, 131, 132, 133] [0, 0, 0, 0, 0, 0, 0, 0, 0, 0, 0, 0, 0, 0, 0, 0, 0, 0, 0, 0, 0, 0, 0, 0, 0, 0, 0, 0, 0, 0, 0, 0, 0, 0, 0, 0, 0, 0, 0, 0, 0, 0, 0, 0, 0, 0, 0, 0, 0] [false, false, false, false, false, false, false, false, false, false, false, false, false, false, false, false, false, false, false, false, false, false, false, false, false, false, false, false, false, false, false, false, false, false, false, false, false, false, false, false, false, false, false, false, false, false, false, false, false] [.bool s294.1, .bool s294.1, .rsl 8 (List.map Starter.c a2), .int .i64 s294.2, .rp [.int .i64 x313.Bib, .int .i64 x313.Distance, .int .i64 x313.Wave, .int .i64 x313.Slot, .int .i64 x313.Age, .int .i64 x313.Chip, .int .i64 x313.Team, .int .i64 x313.Lot], .rp [.int .i64 x313.Bib, .int .i64 x313.Distance, .int .i64 x313.Wave, .int .i64 x313.Slot, .int .i64 x313.Age, .int .i64 x313.Chip, .int .i64 x313.Team, .int .i64 x313.Lot], .int .i64 x313.Bib, .osl 1 0 r12.1.length 1, .int .i64 s234, .ptr 1 (Int.toNat s234 * 1), .int .i64 x314, .bool (x313.Bib == x314), .bool (x313.Bib == x314), .rsl 8 (List.map Starter.c a2), .int .i64 s294.2, .rp [.int .i64 x316.Bib, .int .i64 x316.Distance, .int .i64 x316.Wave, .int .i64 x316.Slot, .int .i64 x316.Age, .int .i64 x316.Chip, .int .i64 x316.Team, .int .i64 x316.Lot], .rp [.int .i64 x316.Distance, .int .i64 x316.Wave, .int .i64 x316.Slot, .int .i64 x316.Age, .int .i64 x316.Chip, .int .i64 x316.Team, .int .i64 x316.Lot], .int .i64 x316.Distance, .int .i64 a3, .bool (x316.Distance == a3), .bool (x316.Distance == a3), .bool (x316.Distance == a3), .int .i64 a4, .bool (a4 == (-1)), .bool (a4 == (-1)), .ptr 0 6, .rsl 3 (List.map Category.c a1.Categories), .int .i64 a4, .rp [.str x319.Name, .int .i64 x319.From, .int .i64 x319.To], .rp [.int .i64 x319.From, .int .i64 x319.To], .int .i64 x319.From, .rsl 8 (List.map Starter.c a2), .int .i64 s294.2, .rp [.int .i64 x320.Bib, .int .i64 x320.Distance, .int .i64 x320.Wave, .int .i64 x320.Slot, .int .i64 x320.Age, .int .i64 x320.Chip, .int .i64 x320.Team, .int .i64 x320.Lot], .rp [.int .i64 x320.Age, .int .i64 x320.Chip, .int .i64 x320.Team, .int .i64 x320.Lot], .int .i64 x320.Age, .bool (decide (x319.From ≤ x320.Age)), .bool (decide (x319.From ≤ x320.Age)), .rsl 8 (List.map Starter.c a2), .int .i64 s294.2, .rp [.int .i64 x322.Bib, .int .i64 x322.Distance, .int .i64 x322.Wave, .int .i64 x322.Slot, .int .i64 x322.Age, .int .i64 x322.Chip, .int .i64 x322.Team, .int .i64 x322.Lot], .rp [.int .i64 x322.Age, .int .i64 x322.Chip, .int .i64 x322.Team, .int .i64 x322.Lot], .int .i64 x322.Age, .ptr 0 6, .rsl 3 (List.map Category.c a1.Categories), .int .i64 a4, .rp [.str x323.Name, .int .i64 x323.From, .int .i64 x323.To], .rp [.int .i64 x323.To], .int .i64 x323.To] [[.cells 33 (Course.c a1), .row 3 1 (List.map (encI .i64) r12.1), .row 3 1 (List.map (encI .i64) r13.1)]] ([.cells 33 (Course.c a1), .row 3 1 (List.map (encI .i64) r12.1), .row 3 1 (List.map (encI .i64) r13.1)]) draws Z Z Z Z Z Z Z Z ?_ ?_
         ·
          refine Ob.cons ?_ (Ob.cons ?_ (Ob.cons ?_ (Ob.cons ?_ (Ob.cons ?_ (Ob.cons ?_ (Ob.cons ?_ (Ob.cons ?_ (Ob.cons ?_ (Ob.cons ?_ (Ob.cons ?_ (Ob.cons ?_ (Ob.cons ?_ (Ob.cons ?_ (Ob.cons ?_ (Ob.cons ?_ (Ob.cons ?_ (Ob.cons ?_ (Ob.cons ?_ (Ob.cons ?_ (Ob.cons ?_ (Ob.cons ?_ (Ob.cons ?_ (Ob.cons ?_ (Ob.cons ?_ (Ob.cons ?_ (Ob.cons ?_ (Ob.cons ?_ (Ob.cons ?_ (Ob.cons ?_ (Ob.cons ?_ (Ob.cons ?_ (Ob.cons ?_ (Ob.cons ?_ (Ob.cons ?_ (Ob.cons ?_ (Ob.cons ?_ (Ob.cons ?_ (Ob.cons ?_ (Ob.cons ?_ (Ob.cons ?_ (Ob.cons ?_ (Ob.cons ?_ (Ob.cons ?_ (Ob.cons ?_ (Ob.cons ?_ (Ob.cons ?_ (Ob.cons ?_ (Ob.cons ?_ (Ob.nil)))))))))))))))))))))))))))))))))))))))))))))))))
          ·
            refine OB [(14, _)] 85 Z Z Z (Sb.old Z Z Sb.nil) ?_
            exact S Z Wp
          ·
            refine OB [(85, _)] 86 Z Z Z (Sb.dep 0 Z Z Z Sb.nil) ?_
            exact S Z Wp
          ·
            refine OB [(1, _), (86, _)] 87 Z Z Z (Sb.old Z Z (Sb.dep 1 Z Z Z Sb.nil)) ?_
            exact Sg (gT hg312) Z Wp
          ·
            refine OB [(15, _), (86, _)] 88 Z Z Z (Sb.old Z Z (Sb.dep 1 Z Z Z Sb.nil)) ?_
            exact Sg (gT hg312) Z Wp
          ·
            refine OB [(86, _), (87, _), (88, _)] 89 Z Z Z (Sb.dep 1 Z Z Z (Sb.dep 2 Z Z Z (Sb.dep 3 Z Z Z Sb.nil))) ?_
            refine vX (.rp [.int .i64 x313.Bib, .int .i64 x313.Distance, .int .i64 x313.Wave, .int .i64 x313.Slot, .int .i64 x313.Age, .int .i64 x313.Chip, .int .i64 x313.Team, .int .i64 x313.Lot]) (OpV.ixM (e := Starter.c) (l := a2) (v := x313) hx313 runUnderlying34 sizeOf42) ?_ (gT hg312)
            exact WO.nil Post1.mk
          ·
            refine OB [(86, _), (89, _)] 90 Z Z Z (Sb.dep 1 Z Z Z (Sb.dep 4 Z Z Z Sb.nil)) ?_
            exact Frg (gT hg312) fa_42_0 Z Wp
          ·
            refine OB [(86, _), (90, _)] 91 Z Z Z (Sb.dep 1 Z Z Z (Sb.dep 5 Z Z Z Sb.nil)) ?_
            exact Ldg (gT hg312) isAgg3 Z Wp
          ·
            refine OB [(9, _), (86, _)] 92 Z Z Z (Sb.old Z Z (Sb.dep 1 Z Z Z Sb.nil)) ?_
            exact Sg (gT hg312) Z Wp
          ·
            refine OB [(13, _), (86, _)] 93 Z Z Z (Sb.old Z Z (Sb.dep 1 Z Z Z Sb.nil)) ?_
            exact Sg (gT hg312) Z Wp
          ·
            refine OB [(86, _), (92, _), (93, _)] 94 Z Z Z (Sb.dep 1 Z Z Z (Sb.dep 7 Z Z Z (Sb.dep 8 Z Z Z Sb.nil))) ?_
            refine vX (.ptr 1 (Int.toNat s234 * 1)) (OpV.ixW hx314 Z runUnderlying39 sizeOf3) ?_ (gT hg312)
            exact WO.nil Post1.mk
          ·
            refine OB [(86, _), (94, _)] 95 Z Z Z (Sb.dep 1 Z Z Z (Sb.dep 9 Z Z Z Sb.nil)) ?_
            refine vX (.int .i64 x314) (OpV.load Z isAgg3 Z (Pts.ofRow0 hx314)) ?_ (gT hg312)
            exact WO.nil Post1.mk
          ·
            refine OB [(86, _), (91, _), (95, _)] 96 Z Z Z (Sb.dep 1 Z Z Z (Sb.dep 6 Z Z Z (Sb.dep 10 Z Z Z Sb.nil))) ?_
            exact Sg (gT hg312) Z Wp
          ·
            refine OB [(86, _), (96, _)] 97 Z Z Z (Sb.dep 1 Z Z Z (Sb.dep 11 Z Z Z Sb.nil)) ?_
            exact Sg (gT hg312) Z Wp
          ·
            refine OB [(1, _), (97, _)] 98 Z Z Z (Sb.old Z Z (Sb.dep 12 Z Z Z Sb.nil)) ?_
            exact Sg (gT hg315) Z Wp
          ·
            refine OB [(15, _), (97, _)] 99 Z Z Z (Sb.old Z Z (Sb.dep 12 Z Z Z Sb.nil)) ?_
            exact Sg (gT hg315) Z Wp
          ·
            refine OB [(97, _), (98, _), (99, _)] 100 Z Z Z (Sb.dep 12 Z Z Z (Sb.dep 13 Z Z Z (Sb.dep 14 Z Z Z Sb.nil))) ?_
            refine vX (.rp [.int .i64 x316.Bib, .int .i64 x316.Distance, .int .i64 x316.Wave, .int .i64 x316.Slot, .int .i64 x316.Age, .int .i64 x316.Chip, .int .i64 x316.Team, .int .i64 x316.Lot]) (OpV.ixM (e := Starter.c) (l := a2) (v := x316) hx316 runUnderlying34 sizeOf42) ?_ (gT hg315)
            exact WO.nil Post1.mk
          ·
            refine OB [(97, _), (100, _)] 101 Z Z Z (Sb.dep 12 Z Z Z (Sb.dep 15 Z Z Z Sb.nil)) ?_
            exact Frg (gT hg315) fa_42_1 Z Wp
          ·
            refine OB [(97, _), (101, _)] 102 Z Z Z (Sb.dep 12 Z Z Z (Sb.dep 16 Z Z Z Sb.nil)) ?_
            exact Ldg (gT hg315) isAgg3 Z Wp
          ·
            refine OB [(2, _), (97, _)] 103 Z Z Z (Sb.old Z Z (Sb.dep 12 Z Z Z Sb.nil)) ?_
            exact Sg (gT hg315) Z Wp
          ·
            refine OB [(97, _), (102, _), (103, _)] 104 Z Z Z (Sb.dep 12 Z Z Z (Sb.dep 17 Z Z Z (Sb.dep 18 Z Z Z Sb.nil))) ?_
            exact Sg (gT hg315) Z Wp
          ·
            refine OB [(86, _), (97, _), (104, _)] 105 Z Z Z (Sb.dep 1 Z Z Z (Sb.dep 12 Z Z Z (Sb.dep 19 Z Z Z Sb.nil))) ?_
            exact Pkg (gT hg312) hg315 Z Wp
          ·
            refine OB [(86, _), (105, _)] 106 Z Z Z (Sb.dep 1 Z Z Z (Sb.dep 20 Z Z Z Sb.nil)) ?_
            exact Sg (gT hg312) Z Wp
          ·
            refine OB [(3, _), (106, _)] 107 Z Z Z (Sb.old Z Z (Sb.dep 21 Z Z Z Sb.nil)) ?_
            exact Sg (gT hg317) Z Wp
          ·
            refine OB [(106, _), (107, _)] 108 Z Z Z (Sb.dep 21 Z Z Z (Sb.dep 22 Z Z Z Sb.nil)) ?_
            exact Sg (gT hg317) Z Wp
          ·
            refine OB [(106, _), (108, _)] 109 Z Z Z (Sb.dep 21 Z Z Z (Sb.dep 23 Z Z Z Sb.nil)) ?_
            exact Sg (gT hg317) Z Wp
          ·
            refine OB [(4, _), (109, _)] 110 Z Z Z (Sb.old Z Z (Sb.dep 24 Z Z Z Sb.nil)) ?_
            exact Fpg (gT hg318) fa_33_6 Z Wp
          ·
            refine OB [(109, _), (110, _)] 111 Z Z Z (Sb.dep 24 Z Z Z (Sb.dep 25 Z Z Z Sb.nil)) ?_
            exact Ldg (gT hg318) isAgg27 Z Wp
          ·
            refine OB [(3, _), (109, _)] 112 Z Z Z (Sb.old Z Z (Sb.dep 24 Z Z Z Sb.nil)) ?_
            exact Sg (gT hg318) Z Wp
          ·
            refine OB [(109, _), (111, _), (112, _)] 113 Z Z Z (Sb.dep 24 Z Z Z (Sb.dep 26 Z Z Z (Sb.dep 27 Z Z Z Sb.nil))) ?_
            refine vX (.rp [.str x319.Name, .int .i64 x319.From, .int .i64 x319.To]) (OpV.ixM (e := Category.c) (l := a1.Categories) (v := x319) hx319 runUnderlying27 sizeOf52) ?_ (gT hg318)
            exact WO.nil Post1.mk
          ·
            refine OB [(109, _), (113, _)] 114 Z Z Z (Sb.dep 24 Z Z Z (Sb.dep 28 Z Z Z Sb.nil)) ?_
            exact Frg (gT hg318) fa_52_1 Z Wp
          ·
            refine OB [(109, _), (114, _)] 115 Z Z Z (Sb.dep 24 Z Z Z (Sb.dep 29 Z Z Z Sb.nil)) ?_
            exact Ldg (gT hg318) isAgg3 Z Wp
          ·
            refine OB [(1, _), (109, _)] 116 Z Z Z (Sb.old Z Z (Sb.dep 24 Z Z Z Sb.nil)) ?_
            exact Sg (gT hg318) Z Wp
          ·
            refine OB [(15, _), (109, _)] 117 Z Z Z (Sb.old Z Z (Sb.dep 24 Z Z Z Sb.nil)) ?_
            exact Sg (gT hg318) Z Wp
          ·
            refine OB [(109, _), (116, _), (117, _)] 118 Z Z Z (Sb.dep 24 Z Z Z (Sb.dep 31 Z Z Z (Sb.dep 32 Z Z Z Sb.nil))) ?_
            refine vX (.rp [.int .i64 x320.Bib, .int .i64 x320.Distance, .int .i64 x320.Wave, .int .i64 x320.Slot, .int .i64 x320.Age, .int .i64 x320.Chip, .int .i64 x320.Team, .int .i64 x320.Lot]) (OpV.ixM (e := Starter.c) (l := a2) (v := x320) hx320 runUnderlying34 sizeOf42) ?_ (gT hg318)
            exact WO.nil Post1.mk
          ·
            refine OB [(109, _), (118, _)] 119 Z Z Z (Sb.dep 24 Z Z Z (Sb.dep 33 Z Z Z Sb.nil)) ?_
            exact Frg (gT hg318) fa_42_4 Z Wp
          ·
            refine OB [(109, _), (119, _)] 120 Z Z Z (Sb.dep 24 Z Z Z (Sb.dep 34 Z Z Z Sb.nil)) ?_
            exact Ldg (gT hg318) isAgg3 Z Wp
          ·
            refine OB [(109, _), (115, _), (120, _)] 121 Z Z Z (Sb.dep 24 Z Z Z (Sb.dep 30 Z Z Z (Sb.dep 35 Z Z Z Sb.nil))) ?_
            exact Sg (gT hg318) Z Wp
          ·
            refine OB [(109, _), (121, _)] 122 Z Z Z (Sb.dep 24 Z Z Z (Sb.dep 36 Z Z Z Sb.nil)) ?_
            exact Sg (gT hg318) Z Wp
          ·
            refine OB [(1, _), (122, _)] 123 Z Z Z (Sb.old Z Z (Sb.dep 37 Z Z Z Sb.nil)) ?_
            exact Sg (gT hg321) Z Wp
          ·
            refine OB [(15, _), (122, _)] 124 Z Z Z (Sb.old Z Z (Sb.dep 37 Z Z Z Sb.nil)) ?_
            exact Sg (gT hg321) Z Wp
          ·
            refine OB [(122, _), (123, _), (124, _)] 125 Z Z Z (Sb.dep 37 Z Z Z (Sb.dep 38 Z Z Z (Sb.dep 39 Z Z Z Sb.nil))) ?_
            refine vX (.rp [.int .i64 x322.Bib, .int .i64 x322.Distance, .int .i64 x322.Wave, .int .i64 x322.Slot, .int .i64 x322.Age, .int .i64 x322.Chip, .int .i64 x322.Team, .int .i64 x322.Lot]) (OpV.ixM (e := Starter.c) (l := a2) (v := x322) hx322 runUnderlying34 sizeOf42) ?_ (gT hg321)
            exact WO.nil Post1.mk
          ·
            refine OB [(122, _), (125, _)] 126 Z Z Z (Sb.dep 37 Z Z Z (Sb.dep 40 Z Z Z Sb.nil)) ?_
            exact Frg (gT hg321) fa_42_4 Z Wp
          ·
            refine OB [(122, _), (126, _)] 127 Z Z Z (Sb.dep 37 Z Z Z (Sb.dep 41 Z Z Z Sb.nil)) ?_
            exact Ldg (gT hg321) isAgg3 Z Wp
          ·
            refine OB [(4, _), (122, _)] 128 Z Z Z (Sb.old Z Z (Sb.dep 37 Z Z Z Sb.nil)) ?_
            exact Fpg (gT hg321) fa_33_6 Z Wp
          ·
            refine OB [(122, _), (128, _)] 129 Z Z Z (Sb.dep 37 Z Z Z (Sb.dep 43 Z Z Z Sb.nil)) ?_
            exact Ldg (gT hg321) isAgg27 Z Wp
          ·
            refine OB [(3, _), (122, _)] 130 Z Z Z (Sb.old Z Z (Sb.dep 37 Z Z Z Sb.nil)) ?_
            exact Sg (gT hg321) Z Wp
          ·
            refine OB [(122, _), (129, _), (130, _)] 131 Z Z Z (Sb.dep 37 Z Z Z (Sb.dep 44 Z Z Z (Sb.dep 45 Z Z Z Sb.nil))) ?_
            refine vX (.rp [.str x323.Name, .int .i64 x323.From, .int .i64 x323.To]) (OpV.ixM (e := Category.c) (l := a1.Categories) (v := x323) hx323 runUnderlying27 sizeOf52) ?_ (gT hg321)
            exact WO.nil Post1.mk
          ·
            refine OB [(122, _), (131, _)] 132 Z Z Z (Sb.dep 37 Z Z Z (Sb.dep 46 Z Z Z Sb.nil)) ?_
            exact Frg (gT hg321) fa_52_2 Z Wp
          ·
            refine OB [(122, _), (132, _)] 133 Z Z Z (Sb.dep 37 Z Z Z (Sb.dep 47 Z Z Z Sb.nil)) ?_
            exact Ldg (gT hg321) isAgg3 Z Wp
         refine Sg (gT hg321) Z (Pkg (gT hg318) hg321 Z (Pkg (gT hg317) hg318 Z (Pkg (gT hg312) hg317 Z (Pk hg312 Z (S Z (WO.nil ?_))))))
         obtain rfl := Oi h311
         exact cutN (Lr [0, 1, 2])
        ·
         refine TC.draw 49 0 [85, 86, 87, 88, 89, 90, 91, 92, 93, 94, 95, 96, 97, 98, 99, 100, 101, 102, 103, 104, 105, 106, 107, 108, 109, 110, 111, 112, 113, 114, 115, 116, 117, 118, 119, 120, 121, 122, 123, 124, 125, 126, 127, 128, 129, 130, 131, 132, 133] [0, 0, 0, 0, 0, 0, 0, 0, 0, 0, 0, 0, 0, 0, 0, 0, 0, 0, 0, 0, 0, 0, 0, 0, 0, 0, 0, 0, 0, 0, 0, 0, 0, 0, 0, 0, 0, 0, 0, 0, 0, 0, 0, 0, 0, 0, 0, 0, 0] [false, false, false, false, false, false, false, false, false, false, false, false, false, false, false, false, false, false, false, false, false, false, false, false, false, false, false, false, false, false, false, false, false, false, false, false, false, false, false, false, false, false, false, false, false, false, false, false, false] [.bool s294.1, .bool s294.1, .rsl 8 (List.map Starter.c a2), .int .i64 s294.2, .rp [.int .i64 x313.Bib, .int .i64 x313.Distance, .int .i64 x313.Wave, .int .i64 x313.Slot, .int .i64 x313.Age, .int .i64 x313.Chip, .int .i64 x313.Team, .int .i64 x313.Lot], .rp [.int .i64 x313.Bib, .int .i64 x313.Distance, .int .i64 x313.Wave, .int .i64 x313.Slot, .int .i64 x313.Age, .int .i64 x313.Chip, .int .i64 x313.Team, .int .i64 x313.Lot], .int .i64 x313.Bib, .osl 1 0 r12.1.length 1, .int .i64 s234, .ptr 1 (Int.toNat s234 * 1), .int .i64 x314, .bool (x313.Bib == x314), .bool (x313.Bib == x314), .rsl 8 (List.map Starter.c a2), .int .i64 s294.2, .rp [.int .i64 x316.Bib, .int .i64 x316.Distance, .int .i64 x316.Wave, .int .i64 x316.Slot, .int .i64 x316.Age, .int .i64 x316.Chip, .int .i64 x316.Team, .int .i64 x316.Lot], .rp [.int .i64 x316.Distance, .int .i64 x316.Wave, .int .i64 x316.Slot, .int .i64 x316.Age, .int .i64 x316.Chip, .int .i64 x316.Team, .int .i64 x316.Lot], .int .i64 x316.Distance, .int .i64 a3, .bool (x316.Distance == a3), .bool (x316.Distance == a3), .bool (x316.Distance == a3), .int .i64 a4, .bool (a4 == (-1)), .bool (a4 == (-1)), .ptr 0 6, .rsl 3 (List.map Category.c a1.Categories), .int .i64 a4, .rp [.str x319.Name, .int .i64 x319.From, .int .i64 x319.To], .rp [.int .i64 x319.From, .int .i64 x319.To], .int .i64 x319.From, .rsl 8 (List.map Starter.c a2), .int .i64 s294.2, .rp [.int .i64 x320.Bib, .int .i64 x320.Distance, .int .i64 x320.Wave, .int .i64 x320.Slot, .int .i64 x320.Age, .int .i64 x320.Chip, .int .i64 x320.Team, .int .i64 x320.Lot], .rp [.int .i64 x320.Age, .int .i64 x320.Chip, .int .i64 x320.Team, .int .i64 x320.Lot], .int .i64 x320.Age, .bool (decide (x319.From ≤ x320.Age)), .bool (decide (x319.From ≤ x320.Age)), .tup [], .tup [], .tup [], .tup [], .tup [], .tup [], .tup [], .tup [], .tup [], .tup [], .tup []] [[.cells 33 (Course.c a1), .row 3 1 (List.map (encI .i64) r12.1), .row 3 1 (List.map (encI .i64) r13.1)]] ([.cells 33 (Course.c a1), .row 3 1 (List.map (encI .i64) r12.1), .row 3 1 (List.map (encI .i64) r13.1)]) draws Z Z Z Z Z Z Z Z ?_ ?_
         ·
          refine Ob.cons ?_ (Ob.cons ?_ (Ob.cons ?_ (Ob.cons ?_ (Ob.cons ?_ (Ob.cons ?_ (Ob.cons ?_ (Ob.cons ?_ (Ob.cons ?_ (Ob.cons ?_ (Ob.cons ?_ (Ob.cons ?_ (Ob.cons ?_ (Ob.cons ?_ (Ob.cons ?_ (Ob.cons ?_ (Ob.cons ?_ (Ob.cons ?_ (Ob.cons ?_ (Ob.cons ?_ (Ob.cons ?_ (Ob.cons ?_ (Ob.cons ?_ (Ob.cons ?_ (Ob.cons ?_ (Ob.cons ?_ (Ob.cons ?_ (Ob.cons ?_ (Ob.cons ?_ (Ob.cons ?_ (Ob.cons ?_ (Ob.cons ?_ (Ob.cons ?_ (Ob.cons ?_ (Ob.cons ?_ (Ob.cons ?_ (Ob.cons ?_ (Ob.cons ?_ (Ob.cons ?_ (Ob.cons ?_ (Ob.cons ?_ (Ob.cons ?_ (Ob.cons ?_ (Ob.cons ?_ (Ob.cons ?_ (Ob.cons ?_ (Ob.cons ?_ (Ob.cons ?_ (Ob.cons ?_ (Ob.nil)))))))))))))))))))))))))))))))))))))))))))))))))
          ·
            refine OB [(14, _)] 85 Z Z Z (Sb.old Z Z Sb.nil) ?_
            exact S Z Wp
          ·
            refine OB [(85, _)] 86 Z Z Z (Sb.dep 0 Z Z Z Sb.nil) ?_
            exact S Z Wp
          ·
            refine OB [(1, _), (86, _)] 87 Z Z Z (Sb.old Z Z (Sb.dep 1 Z Z Z Sb.nil)) ?_
            exact Sg (gT hg312) Z Wp
          ·
            refine OB [(15, _), (86, _)] 88 Z Z Z (Sb.old Z Z (Sb.dep 1 Z Z Z Sb.nil)) ?_
            exact Sg (gT hg312) Z Wp
          ·
            refine OB [(86, _), (87, _), (88, _)] 89 Z Z Z (Sb.dep 1 Z Z Z (Sb.dep 2 Z Z Z (Sb.dep 3 Z Z Z Sb.nil))) ?_
            refine vX (.rp [.int .i64 x313.Bib, .int .i64 x313.Distance, .int .i64 x313.Wave, .int .i64 x313.Slot, .int .i64 x313.Age, .int .i64 x313.Chip, .int .i64 x313.Team, .int .i64 x313.Lot]) (OpV.ixM (e := Starter.c) (l := a2) (v := x313) hx313 runUnderlying34 sizeOf42) ?_ (gT hg312)
            exact WO.nil Post1.mk
          ·
            refine OB [(86, _), (89, _)] 90 Z Z Z (Sb.dep 1 Z Z Z (Sb.dep 4 Z Z Z Sb.nil)) ?_
            exact Frg (gT hg312) fa_42_0 Z Wp
          ·
            refine OB [(86, _), (90, _)] 91 Z Z Z (Sb.dep 1 Z Z Z (Sb.dep 5 Z Z Z Sb.nil)) ?_
            exact Ldg (gT hg312) isAgg3 Z Wp
          ·
            refine OB [(9, _), (86, _)] 92 Z Z Z (Sb.old Z Z (Sb.dep 1 Z Z Z Sb.nil)) ?_
            exact Sg (gT hg312) Z Wp
          ·
            refine OB [(13, _), (86, _)] 93 Z Z Z (Sb.old Z Z (Sb.dep 1 Z Z Z Sb.nil)) ?_
            exact Sg (gT hg312) Z Wp
          ·
            refine OB [(86, _), (92, _), (93, _)] 94 Z Z Z (Sb.dep 1 Z Z Z (Sb.dep 7 Z Z Z (Sb.dep 8 Z Z Z Sb.nil))) ?_
            refine vX (.ptr 1 (Int.toNat s234 * 1)) (OpV.ixW hx314 Z runUnderlying39 sizeOf3) ?_ (gT hg312)
            exact WO.nil Post1.mk
          ·
            refine OB [(86, _), (94, _)] 95 Z Z Z (Sb.dep 1 Z Z Z (Sb.dep 9 Z Z Z Sb.nil)) ?_
            refine vX (.int .i64 x314) (OpV.load Z isAgg3 Z (Pts.ofRow0 hx314)) ?_ (gT hg312)
            exact WO.nil Post1.mk
          ·
            refine OB [(86, _), (91, _), (95, _)] 96 Z Z Z (Sb.dep 1 Z Z Z (Sb.dep 6 Z Z Z (Sb.dep 10 Z Z Z Sb.nil))) ?_
            exact Sg (gT hg312) Z Wp
          ·
            refine OB [(86, _), (96, _)] 97 Z Z Z (Sb.dep 1 Z Z Z (Sb.dep 11 Z Z Z Sb.nil)) ?_
            exact Sg (gT hg312) Z Wp
          ·
            refine OB [(1, _), (97, _)] 98 Z Z Z (Sb.old Z Z (Sb.dep 12 Z Z Z Sb.nil)) ?_
            exact Sg (gT hg315) Z Wp
          ·
            refine OB [(15, _), (97, _)] 99 Z Z Z (Sb.old Z Z (Sb.dep 12 Z Z Z Sb.nil)) ?_
            exact Sg (gT hg315) Z Wp
          ·
            refine OB [(97, _), (98, _), (99, _)] 100 Z Z Z (Sb.dep 12 Z Z Z (Sb.dep 13 Z Z Z (Sb.dep 14 Z Z Z Sb.nil))) ?_
            refine vX (.rp [.int .i64 x316.Bib, .int .i64 x316.Distance, .int .i64 x316.Wave, .int .i64 x316.Slot, .int .i64 x316.Age, .int .i64 x316.Chip, .int .i64 x316.Team, .int .i64 x316.Lot]) (OpV.ixM (e := Starter.c) (l := a2) (v := x316) hx316 runUnderlying34 sizeOf42) ?_ (gT hg315)
            exact WO.nil Post1.mk
          ·
            refine OB [(97, _), (100, _)] 101 Z Z Z (Sb.dep 12 Z Z Z (Sb.dep 15 Z Z Z Sb.nil)) ?_
            exact Frg (gT hg315) fa_42_1 Z Wp
          ·
            refine OB [(97, _), (101, _)] 102 Z Z Z (Sb.dep 12 Z Z Z (Sb.dep 16 Z Z Z Sb.nil)) ?_
            exact Ldg (gT hg315) isAgg3 Z Wp
          ·
            refine OB [(2, _), (97, _)] 103 Z Z Z (Sb.old Z Z (Sb.dep 12 Z Z Z Sb.nil)) ?_
            exact Sg (gT hg315) Z Wp
          ·
            refine OB [(97, _), (102, _), (103, _)] 104 Z Z Z (Sb.dep 12 Z Z Z (Sb.dep 17 Z Z Z (Sb.dep 18 Z Z Z Sb.nil))) ?_
            exact Sg (gT hg315) Z Wp
          ·
            refine OB [(86, _), (97, _), (104, _)] 105 Z Z Z (Sb.dep 1 Z Z Z (Sb.dep 12 Z Z Z (Sb.dep 19 Z Z Z Sb.nil))) ?_
            exact Pkg (gT hg312) hg315 Z Wp
          ·
            refine OB [(86, _), (105, _)] 106 Z Z Z (Sb.dep 1 Z Z Z (Sb.dep 20 Z Z Z Sb.nil)) ?_
            exact Sg (gT hg312) Z Wp
          ·
            refine OB [(3, _), (106, _)] 107 Z Z Z (Sb.old Z Z (Sb.dep 21 Z Z Z Sb.nil)) ?_
            exact Sg (gT hg317) Z Wp
          ·
            refine OB [(106, _), (107, _)] 108 Z Z Z (Sb.dep 21 Z Z Z (Sb.dep 22 Z Z Z Sb.nil)) ?_
            exact Sg (gT hg317) Z Wp
          ·
            refine OB [(106, _), (108, _)] 109 Z Z Z (Sb.dep 21 Z Z Z (Sb.dep 23 Z Z Z Sb.nil)) ?_
            exact Sg (gT hg317) Z Wp
          ·
            refine OB [(4, _), (109, _)] 110 Z Z Z (Sb.old Z Z (Sb.dep 24 Z Z Z Sb.nil)) ?_
            exact Fpg (gT hg318) fa_33_6 Z Wp
          ·
            refine OB [(109, _), (110, _)] 111 Z Z Z (Sb.dep 24 Z Z Z (Sb.dep 25 Z Z Z Sb.nil)) ?_
            exact Ldg (gT hg318) isAgg27 Z Wp
          ·
            refine OB [(3, _), (109, _)] 112 Z Z Z (Sb.old Z Z (Sb.dep 24 Z Z Z Sb.nil)) ?_
            exact Sg (gT hg318) Z Wp
          ·
            refine OB [(109, _), (111, _), (112, _)] 113 Z Z Z (Sb.dep 24 Z Z Z (Sb.dep 26 Z Z Z (Sb.dep 27 Z Z Z Sb.nil))) ?_
            refine vX (.rp [.str x319.Name, .int .i64 x319.From, .int .i64 x319.To]) (OpV.ixM (e := Category.c) (l := a1.Categories) (v := x319) hx319 runUnderlying27 sizeOf52) ?_ (gT hg318)
            exact WO.nil Post1.mk
          ·
            refine OB [(109, _), (113, _)] 114 Z Z Z (Sb.dep 24 Z Z Z (Sb.dep 28 Z Z Z Sb.nil)) ?_
            exact Frg (gT hg318) fa_52_1 Z Wp
          ·
            refine OB [(109, _), (114, _)] 115 Z Z Z (Sb.dep 24 Z Z Z (Sb.dep 29 Z Z Z Sb.nil)) ?_
            exact Ldg (gT hg318) isAgg3 Z Wp
          ·
            refine OB [(1, _), (109, _)] 116 Z Z Z (Sb.old Z Z (Sb.dep 24 Z Z Z Sb.nil)) ?_
            exact Sg (gT hg318) Z Wp
          ·
            refine OB [(15, _), (109, _)] 117 Z Z Z (Sb.old Z Z (Sb.dep 24 Z Z Z Sb.nil)) ?_
            exact Sg (gT hg318) Z Wp
          ·
            refine OB [(109, _), (116, _), (117, _)] 118 Z Z Z (Sb.dep 24 Z Z Z (Sb.dep 31 Z Z Z (Sb.dep 32 Z Z Z Sb.nil))) ?_
            refine vX (.rp [.int .i64 x320.Bib, .int .i64 x320.Distance, .int .i64 x320.Wave, .int .i64 x320.Slot, .int .i64 x320.Age, .int .i64 x320.Chip, .int .i64 x320.Team, .int .i64 x320.Lot]) (OpV.ixM (e := Starter.c) (l := a2) (v := x320) hx320 runUnderlying34 sizeOf42) ?_ (gT hg318)
            exact WO.nil Post1.mk
          ·
            refine OB [(109, _), (118, _)] 119 Z Z Z (Sb.dep 24 Z Z Z (Sb.dep 33 Z Z Z Sb.nil)) ?_
            exact Frg (gT hg318) fa_42_4 Z Wp
          ·
            refine OB [(109, _), (119, _)] 120 Z Z Z (Sb.dep 24 Z Z Z (Sb.dep 34 Z Z Z Sb.nil)) ?_
            exact Ldg (gT hg318) isAgg3 Z Wp
          ·
            refine OB [(109, _), (115, _), (120, _)] 121 Z Z Z (Sb.dep 24 Z Z Z (Sb.dep 30 Z Z Z (Sb.dep 35 Z Z Z Sb.nil))) ?_
            exact Sg (gT hg318) Z Wp
          ·
            refine OB [(109, _), (121, _)] 122 Z Z Z (Sb.dep 24 Z Z Z (Sb.dep 36 Z Z Z Sb.nil)) ?_
            exact Sg (gT hg318) Z Wp
          ·
            refine OB [(1, _), (122, _)] 123 Z Z Z (Sb.old Z Z (Sb.dep 37 Z Z Z Sb.nil)) ?_
            exact K (gF hg321) Z Wp
          ·
            refine OB [(15, _), (122, _)] 124 Z Z Z (Sb.old Z Z (Sb.dep 37 Z Z Z Sb.nil)) ?_
            exact K (gF hg321) Z Wp
          ·
            refine OB [(122, _), (123, _), (124, _)] 125 Z Z Z (Sb.dep 37 Z Z Z (Sb.dep 38 Z Z Z (Sb.dep 39 Z Z Z Sb.nil))) ?_
            exact K (gF hg321) Z Wp
          ·
            refine OB [(122, _), (125, _)] 126 Z Z Z (Sb.dep 37 Z Z Z (Sb.dep 40 Z Z Z Sb.nil)) ?_
            exact K (gF hg321) Z Wp
          ·
            refine OB [(122, _), (126, _)] 127 Z Z Z (Sb.dep 37 Z Z Z (Sb.dep 41 Z Z Z Sb.nil)) ?_
            exact K (gF hg321) Z Wp
          ·
            refine OB [(4, _), (122, _)] 128 Z Z Z (Sb.old Z Z (Sb.dep 37 Z Z Z Sb.nil)) ?_
            exact K (gF hg321) Z Wp
          ·
            refine OB [(122, _), (128, _)] 129 Z Z Z (Sb.dep 37 Z Z Z (Sb.dep 43 Z Z Z Sb.nil)) ?_
            exact K (gF hg321) Z Wp
          ·
            refine OB [(3, _), (122, _)] 130 Z Z Z (Sb.old Z Z (Sb.dep 37 Z Z Z Sb.nil)) ?_
            exact K (gF hg321) Z Wp
          ·
            refine OB [(122, _), (129, _), (130, _)] 131 Z Z Z (Sb.dep 37 Z Z Z (Sb.dep 44 Z Z Z (Sb.dep 45 Z Z Z Sb.nil))) ?_
            exact K (gF hg321) Z Wp
          ·
            refine OB [(122, _), (131, _)] 132 Z Z Z (Sb.dep 37 Z Z Z (Sb.dep 46 Z Z Z Sb.nil)) ?_
            exact K (gF hg321) Z Wp
          ·
            refine OB [(122, _), (132, _)] 133 Z Z Z (Sb.dep 37 Z Z Z (Sb.dep 47 Z Z Z Sb.nil)) ?_
            exact K (gF hg321) Z Wp
         refine KF hg321 Z (Pkg (gT hg318) hg321 Z (Pkg (gT hg317) hg318 Z (Pkg (gT hg312) hg317 Z (Pk hg312 Z (S Z (WO.nil ?_))))))
         obtain rfl := Oi h311
         exact cutN (Lr [0, 1, 2])
      ·
       refine TC.draw 49 0 [85, 86, 87, 88, 89, 90, 91, 92, 93, 94, 95, 96, 97, 98, 99, 100, 101, 102, 103, 104, 105, 106, 107, 108, 109, 110, 111, 112, 113, 114, 115, 116, 117, 118, 119, 120, 121, 122, 123, 124, 125, 126, 127, 128, 129, 130, 131, 132, 133] [0, 0, 0, 0, 0, 0, 0, 0, 0, 0, 0, 0, 0, 0, 0, 0, 0, 0, 0, 0, 0, 0, 0, 0, 0, 0, 0, 0, 0, 0, 0, 0, 0, 0, 0, 0, 0, 0, 0, 0, 0, 0, 0, 0, 0, 0, 0, 0, 0] [false, false, false, false, false, false, false, false, false, false, false, false, false, false, false, false, false, false, false, false, false, false, false, false, false, false, false, false, false, false, false, false, false, false, false, false, false, false, false, false, false, false, false, false, false, false, false, false, false] [.bool s294.1, .bool s294.1, .rsl 8 (List.map Starter.c a2), .int .i64 s294.2, .rp [.int .i64 x313.Bib, .int .i64 x313.Distance, .int .i64 x313.Wave, .int .i64 x313.Slot, .int .i64 x313.Age, .int .i64 x313.Chip, .int .i64 x313.Team, .int .i64 x313.Lot], .rp [.int .i64 x313.Bib, .int .i64 x313.Distance, .int .i64 x313.Wave, .int .i64 x313.Slot, .int .i64 x313.Age, .int .i64 x313.Chip, .int .i64 x313.Team, .int .i64 x313.Lot], .int .i64 x313.Bib, .osl 1 0 r12.1.length 1, .int .i64 s234, .ptr 1 (Int.toNat s234 * 1), .int .i64 x314, .bool (x313.Bib == x314), .bool (x313.Bib == x314), .rsl 8 (List.map Starter.c a2), .int .i64 s294.2, .rp [.int .i64 x316.Bib, .int .i64 x316.Distance, .int .i64 x316.Wave, .int .i64 x316.Slot, .int .i64 x316.Age, .int .i64 x316.Chip, .int .i64 x316.Team, .int .i64 x316.Lot], .rp [.int .i64 x316.Distance, .int .i64 x316.Wave, .int .i64 x316.Slot, .int .i64 x316.Age, .int .i64 x316.Chip, .int .i64 x316.Team, .int .i64 x316.Lot], .int .i64 x316.Distance, .int .i64 a3, .bool (x316.Distance == a3), .bool (x316.Distance == a3), .bool (x316.Distance == a3), .tup [], .tup [], .tup [], .tup [], .tup [], .tup [], .tup [], .tup [], .tup [], .tup [], .tup [], .tup [], .tup [], .tup [], .tup [], .tup [], .tup [], .tup [], .tup [], .tup [], .tup [], .tup [], .tup [], .tup [], .tup [], .tup [], .tup []] [[.cells 33 (Course.c a1), .row 3 1 (List.map (encI .i64) r12.1), .row 3 1 (List.map (encI .i64) r13.1)]] ([.cells 33 (Course.c a1), .row 3 1 (List.map (encI .i64) r12.1), .row 3 1 (List.map (encI .i64) r13.1)]) draws Z Z Z Z Z Z Z Z ?_ ?_
       ·
        refine Ob.cons ?_ (Ob.cons ?_ (Ob.cons ?_ (Ob.cons ?_ (Ob.cons ?_ (Ob.cons ?_ (Ob.cons ?_ (Ob.cons ?_ (Ob.cons ?_ (Ob.cons ?_ (Ob.cons ?_ (Ob.cons ?_ (Ob.cons ?_ (Ob.cons ?_ (Ob.cons ?_ (Ob.cons ?_ (Ob.cons ?_ (Ob.cons ?_ (Ob.cons ?_ (Ob.cons ?_ (Ob.cons ?_ (Ob.cons ?_ (Ob.cons ?_ (Ob.cons ?_ (Ob.cons ?_ (Ob.cons ?_ (Ob.cons ?_ (Ob.cons ?_ (Ob.cons ?_ (Ob.cons ?_ (Ob.cons ?_ (Ob.cons ?_ (Ob.cons ?_ (Ob.cons ?_ (Ob.cons ?_ (Ob.cons ?_ (Ob.cons ?_ (Ob.cons ?_ (Ob.cons ?_ (Ob.cons ?_ (Ob.cons ?_ (Ob.cons ?_ (Ob.cons ?_ (Ob.cons ?_ (Ob.cons ?_ (Ob.cons ?_ (Ob.cons ?_ (Ob.cons ?_ (Ob.cons ?_ (Ob.nil)))))))))))))))))))))))))))))))))))))))))))))))))
        ·
          refine OB [(14, _)] 85 Z Z Z (Sb.old Z Z Sb.nil) ?_
          exact S Z Wp
        ·
          refine OB [(85, _)] 86 Z Z Z (Sb.dep 0 Z Z Z Sb.nil) ?_
          exact S Z Wp
        ·
          refine OB [(1, _), (86, _)] 87 Z Z Z (Sb.old Z Z (Sb.dep 1 Z Z Z Sb.nil)) ?_
          exact Sg (gT hg312) Z Wp
        ·
          refine OB [(15, _), (86, _)] 88 Z Z Z (Sb.old Z Z (Sb.dep 1 Z Z Z Sb.nil)) ?_
          exact Sg (gT hg312) Z Wp
        ·
          refine OB [(86, _), (87, _), (88, _)] 89 Z Z Z (Sb.dep 1 Z Z Z (Sb.dep 2 Z Z Z (Sb.dep 3 Z Z Z Sb.nil))) ?_
          refine vX (.rp [.int .i64 x313.Bib, .int .i64 x313.Distance, .int .i64 x313.Wave, .int .i64 x313.Slot, .int .i64 x313.Age, .int .i64 x313.Chip, .int .i64 x313.Team, .int .i64 x313.Lot]) (OpV.ixM (e := Starter.c) (l := a2) (v := x313) hx313 runUnderlying34 sizeOf42) ?_ (gT hg312)
          exact WO.nil Post1.mk
        ·
          refine OB [(86, _), (89, _)] 90 Z Z Z (Sb.dep 1 Z Z Z (Sb.dep 4 Z Z Z Sb.nil)) ?_
          exact Frg (gT hg312) fa_42_0 Z Wp
        ·
          refine OB [(86, _), (90, _)] 91 Z Z Z (Sb.dep 1 Z Z Z (Sb.dep 5 Z Z Z Sb.nil)) ?_
          exact Ldg (gT hg312) isAgg3 Z Wp
        ·
          refine OB [(9, _), (86, _)] 92 Z Z Z (Sb.old Z Z (Sb.dep 1 Z Z Z Sb.nil)) ?_
          exact Sg (gT hg312) Z Wp
        ·
          refine OB [(13, _), (86, _)] 93 Z Z Z (Sb.old Z Z (Sb.dep 1 Z Z Z Sb.nil)) ?_
          exact Sg (gT hg312) Z Wp
        ·
          refine OB [(86, _), (92, _), (93, _)] 94 Z Z Z (Sb.dep 1 Z Z Z (Sb.dep 7 Z Z Z (Sb.dep 8 Z Z Z Sb.nil))) ?_
          refine vX (.ptr 1 (Int.toNat s234 * 1)) (OpV.ixW hx314 Z runUnderlying39 sizeOf3) ?_ (gT hg312)
          exact WO.nil Post1.mk
        ·
          refine OB [(86, _), (94, _)] 95 Z Z Z (Sb.dep 1 Z Z Z (Sb.dep 9 Z Z Z Sb.nil)) ?_
          refine vX (.int .i64 x314) (OpV.load Z isAgg3 Z (Pts.ofRow0 hx314)) ?_ (gT hg312)
          exact WO.nil Post1.mk
        ·
          refine OB [(86, _), (91, _), (95, _)] 96 Z Z Z (Sb.dep 1 Z Z Z (Sb.dep 6 Z Z Z (Sb.dep 10 Z Z Z Sb.nil))) ?_
          exact Sg (gT hg312) Z Wp
        ·
          refine OB [(86, _), (96, _)] 97 Z Z Z (Sb.dep 1 Z Z Z (Sb.dep 11 Z Z Z Sb.nil)) ?_
          exact Sg (gT hg312) Z Wp
        ·
          refine OB [(1, _), (97, _)] 98 Z Z Z (Sb.old Z Z (Sb.dep 12 Z Z Z Sb.nil)) ?_
          exact Sg (gT hg315) Z Wp
        ·
          refine OB [(15, _), (97, _)] 99 Z Z Z (Sb.old Z Z (Sb.dep 12 Z Z Z Sb.nil)) ?_
          exact Sg (gT hg315) Z Wp
        ·
          refine OB [(97, _), (98, _), (99, _)] 100 Z Z Z (Sb.dep 12 Z Z Z (Sb.dep 13 Z Z Z (Sb.dep 14 Z Z Z Sb.nil))) ?_
          refine vX (.rp [.int .i64 x316.Bib, .int .i64 x316.Distance, .int .i64 x316.Wave, .int .i64 x316.Slot, .int .i64 x316.Age, .int .i64 x316.Chip, .int .i64 x316.Team, .int .i64 x316.Lot]) (OpV.ixM (e := Starter.c) (l := a2) (v := x316) hx316 runUnderlying34 sizeOf42) ?_ (gT hg315)
          exact WO.nil Post1.mk
        ·
          refine OB [(97, _), (100, _)] 101 Z Z Z (Sb.dep 12 Z Z Z (Sb.dep 15 Z Z Z Sb.nil)) ?_
          exact Frg (gT hg315) fa_42_1 Z Wp
        ·
          refine OB [(97, _), (101, _)] 102 Z Z Z (Sb.dep 12 Z Z Z (Sb.dep 16 Z Z Z Sb.nil)) ?_
          exact Ldg (gT hg315) isAgg3 Z Wp
        ·
          refine OB [(2, _), (97, _)] 103 Z Z Z (Sb.old Z Z (Sb.dep 12 Z Z Z Sb.nil)) ?_
          exact Sg (gT hg315) Z Wp
        ·
          refine OB [(97, _), (102, _), (103, _)] 104 Z Z Z (Sb.dep 12 Z Z Z (Sb.dep 17 Z Z Z (Sb.dep 18 Z Z Z Sb.nil))) ?_
          exact Sg (gT hg315) Z Wp
        ·
          refine OB [(86, _), (97, _), (104, _)] 105 Z Z Z (Sb.dep 1 Z Z Z (Sb.dep 12 Z Z Z (Sb.dep 19 Z Z Z Sb.nil))) ?_
          exact Pkg (gT hg312) hg315 Z Wp
        ·
          refine OB [(86, _), (105, _)] 106 Z Z Z (Sb.dep 1 Z Z Z (Sb.dep 20 Z Z Z Sb.nil)) ?_
          exact Sg (gT hg312) Z Wp
        ·
          refine OB [(3, _), (106, _)] 107 Z Z Z (Sb.old Z Z (Sb.dep 21 Z Z Z Sb.nil)) ?_
          exact K (gF hg317) Z Wp
        ·
          refine OB [(106, _), (107, _)] 108 Z Z Z (Sb.dep 21 Z Z Z (Sb.dep 22 Z Z Z Sb.nil)) ?_
          exact K (gF hg317) Z Wp
        ·
          refine OB [(106, _), (108, _)] 109 Z Z Z (Sb.dep 21 Z Z Z (Sb.dep 23 Z Z Z Sb.nil)) ?_
          exact K (gF hg317) Z Wp
        ·
          refine OB [(4, _), (109, _)] 110 Z Z Z (Sb.old Z Z (Sb.dep 24 Z Z Z Sb.nil)) ?_
          exact K gU Z Wp
        ·
          refine OB [(109, _), (110, _)] 111 Z Z Z (Sb.dep 24 Z Z Z (Sb.dep 25 Z Z Z Sb.nil)) ?_
          exact K gU Z Wp
        ·
          refine OB [(3, _), (109, _)] 112 Z Z Z (Sb.old Z Z (Sb.dep 24 Z Z Z Sb.nil)) ?_
          exact K gU Z Wp
        ·
          refine OB [(109, _), (111, _), (112, _)] 113 Z Z Z (Sb.dep 24 Z Z Z (Sb.dep 26 Z Z Z (Sb.dep 27 Z Z Z Sb.nil))) ?_
          exact K gU Z Wp
        ·
          refine OB [(109, _), (113, _)] 114 Z Z Z (Sb.dep 24 Z Z Z (Sb.dep 28 Z Z Z Sb.nil)) ?_
          exact K gU Z Wp
        ·
          refine OB [(109, _), (114, _)] 115 Z Z Z (Sb.dep 24 Z Z Z (Sb.dep 29 Z Z Z Sb.nil)) ?_
          exact K gU Z Wp
        ·
          refine OB [(1, _), (109, _)] 116 Z Z Z (Sb.old Z Z (Sb.dep 24 Z Z Z Sb.nil)) ?_
          exact K gU Z Wp
        ·
          refine OB [(15, _), (109, _)] 117 Z Z Z (Sb.old Z Z (Sb.dep 24 Z Z Z Sb.nil)) ?_
          exact K gU Z Wp
        ·
          refine OB [(109, _), (116, _), (117, _)] 118 Z Z Z (Sb.dep 24 Z Z Z (Sb.dep 31 Z Z Z (Sb.dep 32 Z Z Z Sb.nil))) ?_
          exact K gU Z Wp
        ·
          refine OB [(109, _), (118, _)] 119 Z Z Z (Sb.dep 24 Z Z Z (Sb.dep 33 Z Z Z Sb.nil)) ?_
          exact K gU Z Wp
        ·
          refine OB [(109, _), (119, _)] 120 Z Z Z (Sb.dep 24 Z Z Z (Sb.dep 34 Z Z Z Sb.nil)) ?_
          exact K gU Z Wp
        ·
          refine OB [(109, _), (115, _), (120, _)] 121 Z Z Z (Sb.dep 24 Z Z Z (Sb.dep 30 Z Z Z (Sb.dep 35 Z Z Z Sb.nil))) ?_
          exact K gU Z Wp
        ·
          refine OB [(109, _), (121, _)] 122 Z Z Z (Sb.dep 24 Z Z Z (Sb.dep 36 Z Z Z Sb.nil)) ?_
          exact K gU Z Wp
        ·
          refine OB [(1, _), (122, _)] 123 Z Z Z (Sb.old Z Z (Sb.dep 37 Z Z Z Sb.nil)) ?_
          exact K gU Z Wp
        ·
          refine OB [(15, _), (122, _)] 124 Z Z Z (Sb.old Z Z (Sb.dep 37 Z Z Z Sb.nil)) ?_
          exact K gU Z Wp
        ·
          refine OB [(122, _), (123, _), (124, _)] 125 Z Z Z (Sb.dep 37 Z Z Z (Sb.dep 38 Z Z Z (Sb.dep 39 Z Z Z Sb.nil))) ?_
          exact K gU Z Wp
        ·
          refine OB [(122, _), (125, _)] 126 Z Z Z (Sb.dep 37 Z Z Z (Sb.dep 40 Z Z Z Sb.nil)) ?_
          exact K gU Z Wp
        ·
          refine OB [(122, _), (126, _)] 127 Z Z Z (Sb.dep 37 Z Z Z (Sb.dep 41 Z Z Z Sb.nil)) ?_
          exact K gU Z Wp
        ·
          refine OB [(4, _), (122, _)] 128 Z Z Z (Sb.old Z Z (Sb.dep 37 Z Z Z Sb.nil)) ?_
          exact K gU Z Wp
        ·
          refine OB [(122, _), (128, _)] 129 Z Z Z (Sb.dep 37 Z Z Z (Sb.dep 43 Z Z Z Sb.nil)) ?_
          exact K gU Z Wp
        ·
          refine OB [(3, _), (122, _)] 130 Z Z Z (Sb.old Z Z (Sb.dep 37 Z Z Z Sb.nil)) ?_
          exact K gU Z Wp
        ·
          refine OB [(122, _), (129, _), (130, _)] 131 Z Z Z (Sb.dep 37 Z Z Z (Sb.dep 44 Z Z Z (Sb.dep 45 Z Z Z Sb.nil))) ?_
          exact K gU Z Wp
        ·
          refine OB [(122, _), (131, _)] 132 Z Z Z (Sb.dep 37 Z Z Z (Sb.dep 46 Z Z Z Sb.nil)) ?_
          exact K gU Z Wp
        ·
          refine OB [(122, _), (132, _)] 133 Z Z Z (Sb.dep 37 Z Z Z (Sb.dep 47 Z Z Z Sb.nil)) ?_
          exact K gU Z Wp
       refine KU Z (KU Z (KF hg317 Z (Pkg (gT hg312) hg317 Z (Pk hg312 Z (S Z (WO.nil ?_))))))
       obtain rfl := Oi h311
       exact cutN (Lr [0, 1, 2])
     ·
      refine TC.draw 49 0 [85, 86, 87, 88, 89, 90, 91, 92, 93, 94, 95, 96, 97, 98, 99, 100, 101, 102, 103, 104, 105, 106, 107, 108, 109, 110, 111, 112, 113, 114, 115, 116, 117, 118, 119, 120, 121, 122, 123, 124, 125, 126, 127, 128, 129, 130, 131, 132, 133] [0, 0, 0, 0, 0, 0, 0, 0, 0, 0, 0, 0, 0, 0, 0, 0, 0, 0, 0, 0, 0, 0, 0, 0, 0, 0, 0, 0, 0, 0, 0, 0, 0, 0, 0, 0, 0, 0, 0, 0, 0, 0, 0, 0, 0, 0, 0, 0, 0] [false, false, false, false, false, false, false, false, false, false, false, false, false, false, false, false, false, false, false, false, false, false, false, false, false, false, false, false, false, false, false, false, false, false, false, false, false, false, false, false, false, false, false, false, false, false, false, false, false] [.bool s294.1, .bool s294.1, .rsl 8 (List.map Starter.c a2), .int .i64 s294.2, .rp [.int .i64 x313.Bib, .int .i64 x313.Distance, .int .i64 x313.Wave, .int .i64 x313.Slot, .int .i64 x313.Age, .int .i64 x313.Chip, .int .i64 x313.Team, .int .i64 x313.Lot], .rp [.int .i64 x313.Bib, .int .i64 x313.Distance, .int .i64 x313.Wave, .int .i64 x313.Slot, .int .i64 x313.Age, .int .i64 x313.Chip, .int .i64 x313.Team, .int .i64 x313.Lot], .int .i64 x313.Bib, .osl 1 0 r12.1.length 1, .int .i64 s234, .ptr 1 (Int.toNat s234 * 1), .int .i64 x314, .bool (x313.Bib == x314), .bool (x313.Bib == x314), .tup [], .tup [], .tup [], .tup [], .tup [], .tup [], .tup [], .bool false, .bool false, .tup [], .tup [], .tup [], .tup [], .tup [], .tup [], .tup [], .tup [], .tup [], .tup [], .tup [], .tup [], .tup [], .tup [], .tup [], .tup [], .tup [], .tup [], .tup [], .tup [], .tup [], .tup [], .tup [], .tup [], .tup [], .tup [], .tup []] [[.cells 33 (Course.c a1), .row 3 1 (List.map (encI .i64) r12.1), .row 3 1 (List.map (encI .i64) r13.1)]] ([.cells 33 (Course.c a1), .row 3 1 (List.map (encI .i64) r12.1), .row 3 1 (List.map (encI .i64) r13.1)]) draws Z Z Z Z Z Z Z Z ?_ ?_
      ·
       refine Ob.cons ?_ (Ob.cons ?_ (Ob.cons ?_ (Ob.cons ?_ (Ob.cons ?_ (Ob.cons ?_ (Ob.cons ?_ (Ob.cons ?_ (Ob.cons ?_ (Ob.cons ?_ (Ob.cons ?_ (Ob.cons ?_ (Ob.cons ?_ (Ob.cons ?_ (Ob.cons ?_ (Ob.cons ?_ (Ob.cons ?_ (Ob.cons ?_ (Ob.cons ?_ (Ob.cons ?_ (Ob.cons ?_ (Ob.cons ?_ (Ob.cons ?_ (Ob.cons ?_ (Ob.cons ?_ (Ob.cons ?_ (Ob.cons ?_ (Ob.cons ?_ (Ob.cons ?_ (Ob.cons ?_ (Ob.cons ?_ (Ob.cons ?_ (Ob.cons ?_ (Ob.cons ?_ (Ob.cons ?_ (Ob.cons ?_ (Ob.cons ?_ (Ob.cons ?_ (Ob.cons ?_ (Ob.cons ?_ (Ob.cons ?_ (Ob.cons ?_ (Ob.cons ?_ (Ob.cons ?_ (Ob.cons ?_ (Ob.cons ?_ (Ob.cons ?_ (Ob.cons ?_ (Ob.cons ?_ (Ob.nil)))))))))))))))))))))))))))))))))))))))))))))))))
       ·
         refine OB [(14, _)] 85 Z Z Z (Sb.old Z Z Sb.nil) ?_
         exact S Z Wp
       ·
         refine OB [(85, _)] 86 Z Z Z (Sb.dep 0 Z Z Z Sb.nil) ?_
         exact S Z Wp
       ·
         refine OB [(1, _), (86, _)] 87 Z Z Z (Sb.old Z Z (Sb.dep 1 Z Z Z Sb.nil)) ?_
         exact Sg (gT hg312) Z Wp
       ·
         refine OB [(15, _), (86, _)] 88 Z Z Z (Sb.old Z Z (Sb.dep 1 Z Z Z Sb.nil)) ?_
         exact Sg (gT hg312) Z Wp
       ·
         refine OB [(86, _), (87, _), (88, _)] 89 Z Z Z (Sb.dep 1 Z Z Z (Sb.dep 2 Z Z Z (Sb.dep 3 Z Z Z Sb.nil))) ?_
         refine vX (.rp [.int .i64 x313.Bib, .int .i64 x313.Distance, .int .i64 x313.Wave, .int .i64 x313.Slot, .int .i64 x313.Age, .int .i64 x313.Chip, .int .i64 x313.Team, .int .i64 x313.Lot]) (OpV.ixM (e := Starter.c) (l := a2) (v := x313) hx313 runUnderlying34 sizeOf42) ?_ (gT hg312)
         exact WO.nil Post1.mk
       ·
         refine OB [(86, _), (89, _)] 90 Z Z Z (Sb.dep 1 Z Z Z (Sb.dep 4 Z Z Z Sb.nil)) ?_
         exact Frg (gT hg312) fa_42_0 Z Wp
       ·
         refine OB [(86, _), (90, _)] 91 Z Z Z (Sb.dep 1 Z Z Z (Sb.dep 5 Z Z Z Sb.nil)) ?_
         exact Ldg (gT hg312) isAgg3 Z Wp
       ·
         refine OB [(9, _), (86, _)] 92 Z Z Z (Sb.old Z Z (Sb.dep 1 Z Z Z Sb.nil)) ?_
         exact Sg (gT hg312) Z Wp
       ·
         refine OB [(13, _), (86, _)] 93 Z Z Z (Sb.old Z Z (Sb.dep 1 Z Z Z Sb.nil)) ?_
         exact Sg (gT hg312) Z Wp
       ·
         refine OB [(86, _), (92, _), (93, _)] 94 Z Z Z (Sb.dep 1 Z Z Z (Sb.dep 7 Z Z Z (Sb.dep 8 Z Z Z Sb.nil))) ?_
         refine vX (.ptr 1 (Int.toNat s234 * 1)) (OpV.ixW hx314 Z runUnderlying39 sizeOf3) ?_ (gT hg312)
         exact WO.nil Post1.mk
       ·
         refine OB [(86, _), (94, _)] 95 Z Z Z (Sb.dep 1 Z Z Z (Sb.dep 9 Z Z Z Sb.nil)) ?_
         refine vX (.int .i64 x314) (OpV.load Z isAgg3 Z (Pts.ofRow0 hx314)) ?_ (gT hg312)
         exact WO.nil Post1.mk
       ·
         refine OB [(86, _), (91, _), (95, _)] 96 Z Z Z (Sb.dep 1 Z Z Z (Sb.dep 6 Z Z Z (Sb.dep 10 Z Z Z Sb.nil))) ?_
         exact Sg (gT hg312) Z Wp
       ·
         refine OB [(86, _), (96, _)] 97 Z Z Z (Sb.dep 1 Z Z Z (Sb.dep 11 Z Z Z Sb.nil)) ?_
         exact Sg (gT hg312) Z Wp
       ·
         refine OB [(1, _), (97, _)] 98 Z Z Z (Sb.old Z Z (Sb.dep 12 Z Z Z Sb.nil)) ?_
         exact K (gF hg315) Z Wp
       ·
         refine OB [(15, _), (97, _)] 99 Z Z Z (Sb.old Z Z (Sb.dep 12 Z Z Z Sb.nil)) ?_
         exact K (gF hg315) Z Wp
       ·
         refine OB [(97, _), (98, _), (99, _)] 100 Z Z Z (Sb.dep 12 Z Z Z (Sb.dep 13 Z Z Z (Sb.dep 14 Z Z Z Sb.nil))) ?_
         exact K (gF hg315) Z Wp
       ·
         refine OB [(97, _), (100, _)] 101 Z Z Z (Sb.dep 12 Z Z Z (Sb.dep 15 Z Z Z Sb.nil)) ?_
         exact K (gF hg315) Z Wp
       ·
         refine OB [(97, _), (101, _)] 102 Z Z Z (Sb.dep 12 Z Z Z (Sb.dep 16 Z Z Z Sb.nil)) ?_
         exact K (gF hg315) Z Wp
       ·
         refine OB [(2, _), (97, _)] 103 Z Z Z (Sb.old Z Z (Sb.dep 12 Z Z Z Sb.nil)) ?_
         exact K (gF hg315) Z Wp
       ·
         refine OB [(97, _), (102, _), (103, _)] 104 Z Z Z (Sb.dep 12 Z Z Z (Sb.dep 17 Z Z Z (Sb.dep 18 Z Z Z Sb.nil))) ?_
         exact K (gF hg315) Z Wp
       ·
         refine OB [(86, _), (97, _), (104, _)] 105 Z Z Z (Sb.dep 1 Z Z Z (Sb.dep 12 Z Z Z (Sb.dep 19 Z Z Z Sb.nil))) ?_
         exact Pkg (gT hg312) hg315 Z Wp
       ·
         refine OB [(86, _), (105, _)] 106 Z Z Z (Sb.dep 1 Z Z Z (Sb.dep 20 Z Z Z Sb.nil)) ?_
         exact Sg (gT hg312) Z Wp
       ·
         refine OB [(3, _), (106, _)] 107 Z Z Z (Sb.old Z Z (Sb.dep 21 Z Z Z Sb.nil)) ?_
         exact K (gF Z) Z Wp
       ·
         refine OB [(106, _), (107, _)] 108 Z Z Z (Sb.dep 21 Z Z Z (Sb.dep 22 Z Z Z Sb.nil)) ?_
         exact K (gF Z) Z Wp
       ·
         refine OB [(106, _), (108, _)] 109 Z Z Z (Sb.dep 21 Z Z Z (Sb.dep 23 Z Z Z Sb.nil)) ?_
         exact K (gF Z) Z Wp
       ·
         refine OB [(4, _), (109, _)] 110 Z Z Z (Sb.old Z Z (Sb.dep 24 Z Z Z Sb.nil)) ?_
         exact K gU Z Wp
       ·
         refine OB [(109, _), (110, _)] 111 Z Z Z (Sb.dep 24 Z Z Z (Sb.dep 25 Z Z Z Sb.nil)) ?_
         exact K gU Z Wp
       ·
         refine OB [(3, _), (109, _)] 112 Z Z Z (Sb.old Z Z (Sb.dep 24 Z Z Z Sb.nil)) ?_
         exact K gU Z Wp
       ·
         refine OB [(109, _), (111, _), (112, _)] 113 Z Z Z (Sb.dep 24 Z Z Z (Sb.dep 26 Z Z Z (Sb.dep 27 Z Z Z Sb.nil))) ?_
         exact K gU Z Wp
       ·
         refine OB [(109, _), (113, _)] 114 Z Z Z (Sb.dep 24 Z Z Z (Sb.dep 28 Z Z Z Sb.nil)) ?_
         exact K gU Z Wp
       ·
         refine OB [(109, _), (114, _)] 115 Z Z Z (Sb.dep 24 Z Z Z (Sb.dep 29 Z Z Z Sb.nil)) ?_
         exact K gU Z Wp
       ·
         refine OB [(1, _), (109, _)] 116 Z Z Z (Sb.old Z Z (Sb.dep 24 Z Z Z Sb.nil)) ?_
         exact K gU Z Wp
       ·
         refine OB [(15, _), (109, _)] 117 Z Z Z (Sb.old Z Z (Sb.dep 24 Z Z Z Sb.nil)) ?_
         exact K gU Z Wp
       ·
         refine OB [(109, _), (116, _), (117, _)] 118 Z Z Z (Sb.dep 24 Z Z Z (Sb.dep 31 Z Z Z (Sb.dep 32 Z Z Z Sb.nil))) ?_
         exact K gU Z Wp
       ·
         refine OB [(109, _), (118, _)] 119 Z Z Z (Sb.dep 24 Z Z Z (Sb.dep 33 Z Z Z Sb.nil)) ?_
         exact K gU Z Wp
       ·
         refine OB [(109, _), (119, _)] 120 Z Z Z (Sb.dep 24 Z Z Z (Sb.dep 34 Z Z Z Sb.nil)) ?_
         exact K gU Z Wp
       ·
         refine OB [(109, _), (115, _), (120, _)] 121 Z Z Z (Sb.dep 24 Z Z Z (Sb.dep 30 Z Z Z (Sb.dep 35 Z Z Z Sb.nil))) ?_
         exact K gU Z Wp
       ·
         refine OB [(109, _), (121, _)] 122 Z Z Z (Sb.dep 24 Z Z Z (Sb.dep 36 Z Z Z Sb.nil)) ?_
         exact K gU Z Wp
       ·
         refine OB [(1, _), (122, _)] 123 Z Z Z (Sb.old Z Z (Sb.dep 37 Z Z Z Sb.nil)) ?_
         exact K gU Z Wp
       ·
         refine OB [(15, _), (122, _)] 124 Z Z Z (Sb.old Z Z (Sb.dep 37 Z Z Z Sb.nil)) ?_
         exact K gU Z Wp
       ·
         refine OB [(122, _), (123, _), (124, _)] 125 Z Z Z (Sb.dep 37 Z Z Z (Sb.dep 38 Z Z Z (Sb.dep 39 Z Z Z Sb.nil))) ?_
         exact K gU Z Wp
       ·
         refine OB [(122, _), (125, _)] 126 Z Z Z (Sb.dep 37 Z Z Z (Sb.dep 40 Z Z Z Sb.nil)) ?_
         exact K gU Z Wp
       ·
         refine OB [(122, _), (126, _)] 127 Z Z Z (Sb.dep 37 Z Z Z (Sb.dep 41 Z Z Z Sb.nil)) ?_
         exact K gU Z Wp
       ·
         refine OB [(4, _), (122, _)] 128 Z Z Z (Sb.old Z Z (Sb.dep 37 Z Z Z Sb.nil)) ?_
         exact K gU Z Wp
       ·
         refine OB [(122, _), (128, _)] 129 Z Z Z (Sb.dep 37 Z Z Z (Sb.dep 43 Z Z Z Sb.nil)) ?_
         exact K gU Z Wp
       ·
         refine OB [(3, _), (122, _)] 130 Z Z Z (Sb.old Z Z (Sb.dep 37 Z Z Z Sb.nil)) ?_
         exact K gU Z Wp
       ·
         refine OB [(122, _), (129, _), (130, _)] 131 Z Z Z (Sb.dep 37 Z Z Z (Sb.dep 44 Z Z Z (Sb.dep 45 Z Z Z Sb.nil))) ?_
         exact K gU Z Wp
       ·
         refine OB [(122, _), (131, _)] 132 Z Z Z (Sb.dep 37 Z Z Z (Sb.dep 46 Z Z Z Sb.nil)) ?_
         exact K gU Z Wp
       ·
         refine OB [(122, _), (132, _)] 133 Z Z Z (Sb.dep 37 Z Z Z (Sb.dep 47 Z Z Z Sb.nil)) ?_
         exact K gU Z Wp
      refine KU Z (KU Z (KF Z Z (Sg (gT hg312) Z (Pk hg312 Z (S Z (WO.nil ?_))))))
      obtain rfl := Oi h311
      exact cutN (Lr [0, 1, 2])
   exact bloN (seqN (TC.le hle (TC.region (S Z (S Z (S Z (WO.nil (loopN h296 (Lr [0, 1, 2])))))))))
  refine seqN (TC.le hle (TC.seq (Bd h236 fun b333 h334 h236 => ?_)))
  refine TC.cut ([(1, .rsl 8 (List.map Starter.c a2)), (2, .int .i64 a3), (3, .int .i64 a4), (4, .ptr 0 0), (9, .osl 1 0 r12.1.length 1), (11, .osl 2 0 r13.1.length 1), (13, .int .i64 s234), (165, .bool b333)]) ([.cells 33 (Course.c a1), .row 3 1 (List.map (encI .i64) r12.1), .row 3 1 (List.map (encI .i64) r13.1)]) ?_ (fun env H hle => ?_)
  ·
   refine If h334 (fun hg335 h334 => ?_) (fun hg335 h334 => ?_)
   ·
    refine TC.draw 24 0 [139, 140, 141, 142, 143, 144, 145, 146, 147, 148, 149, 150, 151, 152, 153, 154, 155, 156, 157, 158, 159, 160, 161, 162] [0, 0, 0, 0, 0, 0, 0, 0, 0, 0, 0, 0, 0, 0, 0, 0, 0, 0, 0, 0, 0, 0, 0, 0] [false, false, false, false, false, false, false, false, false, false, false, false, false, false, false, false, false, false, false, false, false, false, false, false] [.bool b291, .bool (!b291), .bool (!b291), .tup [], .tup [], .tup [], .tup [], .tup [], .tup [], .tup [], .tup [], .tup [], .tup [], .tup [], .tup [], .tup [], .tup [], .bool true, .bool true, .tup [], .tup [], .tup [], .tup [], .tup []] [[.cells 33 (Course.c a1), .row 3 1 (List.map (encI .i64) r12.1), .row 3 1 (List.map (encI .i64) r13.1)]] ([.cells 33 (Course.c a1), .row 3 1 (List.map (encI .i64) r12.1), .row 3 1 (List.map (encI .i64) r13.1)]) draws Z Z Z Z Z Z Z Z ?_ ?_
    ·
     refine Ob.cons ?_ (Ob.cons ?_ (Ob.cons ?_ (Ob.cons ?_ (Ob.cons ?_ (Ob.cons ?_ (Ob.cons ?_ (Ob.cons ?_ (Ob.cons ?_ (Ob.cons ?_ (Ob.cons ?_ (Ob.cons ?_ (Ob.cons ?_ (Ob.cons ?_ (Ob.cons ?_ (Ob.cons ?_ (Ob.cons ?_ (Ob.cons ?_ (Ob.cons ?_ (Ob.cons ?_ (Ob.cons ?_ (Ob.cons ?_ (Ob.cons ?_ (Ob.cons ?_ (Ob.nil))))))))))))))))))))))))
     ·
       refine OB [(14, _)] 139 Z Z Z (Sb.old Z Z Sb.nil) ?_
       exact S Z Wp
     ·
       refine OB [(139, _)] 140 Z Z Z (Sb.dep 0 Z Z Z Sb.nil) ?_
       exact S Z Wp
     ·
       refine OB [(140, _)] 141 Z Z Z (Sb.dep 1 Z Z Z Sb.nil) ?_
       exact S Z Wp
     ·
       refine OB [(13, _), (141, _)] 142 Z Z Z (Sb.old Z Z (Sb.dep 2 Z Z Z Sb.nil)) ?_
       exact K (gF hg335) Z Wp
     ·
       refine OB [(141, _), (142, _)] 143 Z Z Z (Sb.dep 2 Z Z Z (Sb.dep 3 Z Z Z Sb.nil)) ?_
       exact K (gF hg335) Z Wp
     ·
       refine OB [(141, _), (143, _)] 144 Z Z Z (Sb.dep 2 Z Z Z (Sb.dep 4 Z Z Z Sb.nil)) ?_
       exact K (gF hg335) Z Wp
     ·
       refine OB [(9, _), (144, _)] 145 Z Z Z (Sb.old Z Z (Sb.dep 5 Z Z Z Sb.nil)) ?_
       exact K gU Z Wp
     ·
       refine OB [(13, _), (144, _)] 146 Z Z Z (Sb.old Z Z (Sb.dep 5 Z Z Z Sb.nil)) ?_
       exact K gU Z Wp
     ·
       refine OB [(144, _), (146, _)] 147 Z Z Z (Sb.dep 5 Z Z Z (Sb.dep 7 Z Z Z Sb.nil)) ?_
       exact K gU Z Wp
     ·
       refine OB [(144, _), (145, _), (147, _)] 148 Z Z Z (Sb.dep 5 Z Z Z (Sb.dep 6 Z Z Z (Sb.dep 8 Z Z Z Sb.nil))) ?_
       exact K gU Z Wp
     ·
       refine OB [(144, _), (148, _)] 149 Z Z Z (Sb.dep 5 Z Z Z (Sb.dep 9 Z Z Z Sb.nil)) ?_
       exact K gU Z Wp
     ·
       refine OB [(9, _), (144, _)] 150 Z Z Z (Sb.old Z Z (Sb.dep 5 Z Z Z Sb.nil)) ?_
       exact K gU Z Wp
     ·
       refine OB [(13, _), (144, _)] 151 Z Z Z (Sb.old Z Z (Sb.dep 5 Z Z Z Sb.nil)) ?_
       exact K gU Z Wp
     ·
       refine OB [(144, _), (150, _), (151, _)] 152 Z Z Z (Sb.dep 5 Z Z Z (Sb.dep 11 Z Z Z (Sb.dep 12 Z Z Z Sb.nil))) ?_
       exact K gU Z Wp
     ·
       refine OB [(144, _), (152, _)] 153 Z Z Z (Sb.dep 5 Z Z Z (Sb.dep 13 Z Z Z Sb.nil)) ?_
       exact K gU Z Wp
     ·
       refine OB [(144, _), (149, _), (153, _)] 154 Z Z Z (Sb.dep 5 Z Z Z (Sb.dep 10 Z Z Z (Sb.dep 14 Z Z Z Sb.nil))) ?_
       exact K gU Z Wp
     ·
       refine OB [(141, _), (144, _), (154, _)] 155 Z Z Z (Sb.dep 2 Z Z Z (Sb.dep 5 Z Z Z (Sb.dep 15 Z Z Z Sb.nil))) ?_
       exact K (gF hg335) Z Wp
     ·
       refine OB [(141, _), (155, _)] 156 Z Z Z (Sb.dep 2 Z Z Z (Sb.dep 16 Z Z Z Sb.nil)) ?_
       exact Pk hg335 Z Wp
     ·
       refine OB [(156, _)] 157 Z Z Z (Sb.dep 17 Z Z Z Sb.nil) ?_
       exact S Z Wp
     ·
       refine OB [(11, _), (157, _)] 158 Z Z Z (Sb.old Z Z (Sb.dep 18 Z Z Z Sb.nil)) ?_
       exact K (gF Z) Z Wp
     ·
       refine OB [(9, _), (157, _)] 159 Z Z Z (Sb.old Z Z (Sb.dep 18 Z Z Z Sb.nil)) ?_
       exact K (gF Z) Z Wp
     ·
       refine OB [(13, _), (157, _)] 160 Z Z Z (Sb.old Z Z (Sb.dep 18 Z Z Z Sb.nil)) ?_
       exact K (gF Z) Z Wp
     ·
       refine OB [(157, _), (159, _), (160, _)] 161 Z Z Z (Sb.dep 18 Z Z Z (Sb.dep 20 Z Z Z (Sb.dep 21 Z Z Z Sb.nil))) ?_
       exact K (gF Z) Z Wp
     ·
       refine OB [(157, _), (161, _)] 162 Z Z Z (Sb.dep 18 Z Z Z (Sb.dep 22 Z Z Z Sb.nil)) ?_
       exact K (gF Z) Z Wp
    refine KF Z Z (KF Z Z (S Z (WO.nil ?_)))
    obtain rfl := Oi h334
    exact cutN (Lr [0, 1, 2])
   ·
    refine If h334 (fun hg336 h334 => ?_) (fun hg336 h334 => ?_)
    ·
     obtain ⟨x337, hx337, h334⟩ := bnd h334
     obtain ⟨x338, hx338, h334⟩ := bnd h334
     refine If h334 (fun hg339 h334 => ?_) (fun hg339 h334 => ?_)
     ·
      refine TC.draw 24 0 [139, 140, 141, 142, 143, 144, 145, 146, 147, 148, 149, 150, 151, 152, 153, 154, 155, 156, 157, 158, 159, 160, 161, 162] [0, 0, 0, 0, 0, 0, 0, 0, 0, 0, 0, 0, 0, 0, 0, 0, 0, 0, 0, 0, 0, 0, 0, 0] [false, false, false, false, false, false, false, false, false, false, false, false, false, false, false, false, false, false, false, false, false, false, false, false] [.bool b291, .bool (!b291), .bool (!b291), .int .i64 s234, .bool (decide (0 < s234)), .bool (decide (0 < s234)), .osl 1 0 r12.1.length 1, .int .i64 s234, .int .i64 (IntKind.i64.wrap (s234 - 1)), .ptr 1 (Int.toNat (IntKind.i64.wrap (s234 - 1)) * 1), .int .i64 x337, .osl 1 0 r12.1.length 1, .int .i64 s234, .ptr 1 (Int.toNat s234 * 1), .int .i64 x338, .bool (decide (x338 ≤ x337)), .bool (decide (x338 ≤ x337)), .bool (decide (x338 ≤ x337)), .bool (decide (x338 ≤ x337)), .tup [], .tup [], .tup [], .tup [], .tup []] [[.cells 33 (Course.c a1), .row 3 1 (List.map (encI .i64) r12.1), .row 3 1 (List.map (encI .i64) r13.1)]] ([.cells 33 (Course.c a1), .row 3 1 (List.map (encI .i64) r12.1), .row 3 1 (List.map (encI .i64) r13.1)]) draws Z Z Z Z Z Z Z Z ?_ ?_
      ·
       refine Ob.cons ?_ (Ob.cons ?_ (Ob.cons ?_ (Ob.cons ?_ (Ob.cons ?_ (Ob.cons ?_ (Ob.cons ?_ (Ob.cons ?_ (Ob.cons ?_ (Ob.cons ?_ (Ob.cons ?_ (Ob.cons ?_ (Ob.cons ?_ (Ob.cons ?_ (Ob.cons ?_ (Ob.cons ?_ (Ob.cons ?_ (Ob.cons ?_ (Ob.cons ?_ (Ob.cons ?_ (Ob.cons ?_ (Ob.cons ?_ (Ob.cons ?_ (Ob.cons ?_ (Ob.nil))))))))))))))))))))))))
       ·
         refine OB [(14, _)] 139 Z Z Z (Sb.old Z Z Sb.nil) ?_
         exact S Z Wp
       ·
         refine OB [(139, _)] 140 Z Z Z (Sb.dep 0 Z Z Z Sb.nil) ?_
         exact S Z Wp
       ·
         refine OB [(140, _)] 141 Z Z Z (Sb.dep 1 Z Z Z Sb.nil) ?_
         exact S Z Wp
       ·
         refine OB [(13, _), (141, _)] 142 Z Z Z (Sb.old Z Z (Sb.dep 2 Z Z Z Sb.nil)) ?_
         exact Sg (gT hg335) Z Wp
       ·
         refine OB [(141, _), (142, _)] 143 Z Z Z (Sb.dep 2 Z Z Z (Sb.dep 3 Z Z Z Sb.nil)) ?_
         exact Sg (gT hg335) Z Wp
       ·
         refine OB [(141, _), (143, _)] 144 Z Z Z (Sb.dep 2 Z Z Z (Sb.dep 4 Z Z Z Sb.nil)) ?_
         exact Sg (gT hg335) Z Wp
       ·
         refine OB [(9, _), (144, _)] 145 Z Z Z (Sb.old Z Z (Sb.dep 5 Z Z Z Sb.nil)) ?_
         exact Sg (gT hg336) Z Wp
       ·
         refine OB [(13, _), (144, _)] 146 Z Z Z (Sb.old Z Z (Sb.dep 5 Z Z Z Sb.nil)) ?_
         exact Sg (gT hg336) Z Wp
       ·
         refine OB [(144, _), (146, _)] 147 Z Z Z (Sb.dep 5 Z Z Z (Sb.dep 7 Z Z Z Sb.nil)) ?_
         exact Sg (gT hg336) Z Wp
       ·
         refine OB [(144, _), (145, _), (147, _)] 148 Z Z Z (Sb.dep 5 Z Z Z (Sb.dep 6 Z Z Z (Sb.dep 8 Z Z Z Sb.nil))) ?_
         refine vX (.ptr 1 (Int.toNat (IntKind.i64.wrap (s234 - 1)) * 1)) (OpV.ixW hx337 Z runUnderlying39 sizeOf3) ?_ (gT hg336)
         exact WO.nil Post1.mk
       ·
         refine OB [(144, _), (148, _)] 149 Z Z Z (Sb.dep 5 Z Z Z (Sb.dep 9 Z Z Z Sb.nil)) ?_
         refine vX (.int .i64 x337) (OpV.load Z isAgg3 Z (Pts.ofRow0 hx337)) ?_ (gT hg336)
         exact WO.nil Post1.mk
       ·
         refine OB [(9, _), (144, _)] 150 Z Z Z (Sb.old Z Z (Sb.dep 5 Z Z Z Sb.nil)) ?_
         exact Sg (gT hg336) Z Wp
       ·
         refine OB [(13, _), (144, _)] 151 Z Z Z (Sb.old Z Z (Sb.dep 5 Z Z Z Sb.nil)) ?_
         exact Sg (gT hg336) Z Wp
       ·
         refine OB [(144, _), (150, _), (151, _)] 152 Z Z Z (Sb.dep 5 Z Z Z (Sb.dep 11 Z Z Z (Sb.dep 12 Z Z Z Sb.nil))) ?_
         refine vX (.ptr 1 (Int.toNat s234 * 1)) (OpV.ixW hx338 Z runUnderlying39 sizeOf3) ?_ (gT hg336)
         exact WO.nil Post1.mk
       ·
         refine OB [(144, _), (152, _)] 153 Z Z Z (Sb.dep 5 Z Z Z (Sb.dep 13 Z Z Z Sb.nil)) ?_
         refine vX (.int .i64 x338) (OpV.load Z isAgg3 Z (Pts.ofRow0 hx338)) ?_ (gT hg336)
         exact WO.nil Post1.mk
       ·
         refine OB [(144, _), (149, _), (153, _)] 154 Z Z Z (Sb.dep 5 Z Z Z (Sb.dep 10 Z Z Z (Sb.dep 14 Z Z Z Sb.nil))) ?_
         exact Sg (gT hg336) Z Wp
       ·
         refine OB [(141, _), (144, _), (154, _)] 155 Z Z Z (Sb.dep 2 Z Z Z (Sb.dep 5 Z Z Z (Sb.dep 15 Z Z Z Sb.nil))) ?_
         exact Pkg (gT hg335) hg336 Z Wp
       ·
         refine OB [(141, _), (155, _)] 156 Z Z Z (Sb.dep 2 Z Z Z (Sb.dep 16 Z Z Z Sb.nil)) ?_
         exact Pk hg335 Z Wp
       ·
         refine OB [(156, _)] 157 Z Z Z (Sb.dep 17 Z Z Z Sb.nil) ?_
         exact S Z Wp
       ·
         refine OB [(11, _), (157, _)] 158 Z Z Z (Sb.old Z Z (Sb.dep 18 Z Z Z Sb.nil)) ?_
         exact K (gF hg339) Z Wp
       ·
         refine OB [(9, _), (157, _)] 159 Z Z Z (Sb.old Z Z (Sb.dep 18 Z Z Z Sb.nil)) ?_
         exact K (gF hg339) Z Wp
       ·
         refine OB [(13, _), (157, _)] 160 Z Z Z (Sb.old Z Z (Sb.dep 18 Z Z Z Sb.nil)) ?_
         exact K (gF hg339) Z Wp
       ·
         refine OB [(157, _), (159, _), (160, _)] 161 Z Z Z (Sb.dep 18 Z Z Z (Sb.dep 20 Z Z Z (Sb.dep 21 Z Z Z Sb.nil))) ?_
         exact K (gF hg339) Z Wp
       ·
         refine OB [(157, _), (161, _)] 162 Z Z Z (Sb.dep 18 Z Z Z (Sb.dep 22 Z Z Z Sb.nil)) ?_
         exact K (gF hg339) Z Wp
      refine KF hg339 Z (KF hg339 Z (Pk hg339 Z (WO.nil ?_)))
      obtain rfl := Oi h334
      exact cutN (Lr [0, 1, 2])
     ·
      obtain ⟨x340, hx340, h334⟩ := bnd h334
      refine TC.draw 24 0 [139, 140, 141, 142, 143, 144, 145, 146, 147, 148, 149, 150, 151, 152, 153, 154, 155, 156, 157, 158, 159, 160, 161, 162] [0, 0, 0, 0, 0, 0, 0, 0, 0, 0, 0, 0, 0, 0, 0, 0, 0, 0, 0, 0, 0, 0, 0, 0] [false, false, false, false, false, false, false, false, false, false, false, false, false, false, false, false, false, false, false, false, false, false, false, false] [.bool b291, .bool (!b291), .bool (!b291), .int .i64 s234, .bool (decide (0 < s234)), .bool (decide (0 < s234)), .osl 1 0 r12.1.length 1, .int .i64 s234, .int .i64 (IntKind.i64.wrap (s234 - 1)), .ptr 1 (Int.toNat (IntKind.i64.wrap (s234 - 1)) * 1), .int .i64 x337, .osl 1 0 r12.1.length 1, .int .i64 s234, .ptr 1 (Int.toNat s234 * 1), .int .i64 x338, .bool (decide (x338 ≤ x337)), .bool (decide (x338 ≤ x337)), .bool (decide (x338 ≤ x337)), .bool (decide (x338 ≤ x337)), .osl 2 0 r13.1.length 1, .osl 1 0 r12.1.length 1, .int .i64 s234, .ptr 1 (Int.toNat s234 * 1), .int .i64 x340] [[.cells 33 (Course.c a1), .row 3 1 (List.map (encI .i64) r12.1), .row 3 1 (List.map (encI .i64) r13.1)]] ([.cells 33 (Course.c a1), .row 3 1 (List.map (encI .i64) r12.1), .row 3 1 (List.map (encI .i64) r13.1)]) draws Z Z Z Z Z Z Z Z ?_ ?_
      ·
       refine Ob.cons ?_ (Ob.cons ?_ (Ob.cons ?_ (Ob.cons ?_ (Ob.cons ?_ (Ob.cons ?_ (Ob.cons ?_ (Ob.cons ?_ (Ob.cons ?_ (Ob.cons ?_ (Ob.cons ?_ (Ob.cons ?_ (Ob.cons ?_ (Ob.cons ?_ (Ob.cons ?_ (Ob.cons ?_ (Ob.cons ?_ (Ob.cons ?_ (Ob.cons ?_ (Ob.cons ?_ (Ob.cons ?_ (Ob.cons ?_ (Ob.cons ?_ (Ob.cons ?_ (Ob.nil))))))))))))))))))))))))
       ·
         refine OB [(14, _)] 139 Z Z Z (Sb.old Z Z Sb.nil) ?_
         exact S Z Wp
       ·
         refine OB [(139, _)] 140 Z Z Z (Sb.dep 0 Z Z Z Sb.nil) ?_
         exact S Z Wp
       ·
         refine OB [(140, _)] 141 Z Z Z (Sb.dep 1 Z Z Z Sb.nil) ?_
         exact S Z Wp
       ·
         refine OB [(13, _), (141, _)] 142 Z Z Z (Sb.old Z Z (Sb.dep 2 Z Z Z Sb.nil)) ?_
         exact Sg (gT hg335) Z Wp
       ·
         refine OB [(141, _), (142, _)] 143 Z Z Z (Sb.dep 2 Z Z Z (Sb.dep 3 Z Z Z Sb.nil)) ?_
         exact Sg (gT hg335) Z Wp
       ·
         refine OB [(141, _), (143, _)] 144 Z Z Z (Sb.dep 2 Z Z Z (Sb.dep 4 Z Z Z Sb.nil)) ?_
         exact Sg (gT hg335) Z Wp
       ·
         refine OB [(9, _), (144, _)] 145 Z Z Z (Sb.old Z Z (Sb.dep 5 Z Z Z Sb.nil)) ?_
         exact Sg (gT hg336) Z Wp
       ·
         refine OB [(13, _), (144, _)] 146 Z Z Z (Sb.old Z Z (Sb.dep 5 Z Z Z Sb.nil)) ?_
         exact Sg (gT hg336) Z Wp
       ·
         refine OB [(144, _), (146, _)] 147 Z Z Z (Sb.dep 5 Z Z Z (Sb.dep 7 Z Z Z Sb.nil)) ?_
         exact Sg (gT hg336) Z Wp
       ·
         refine OB [(144, _), (145, _), (147, _)] 148 Z Z Z (Sb.dep 5 Z Z Z (Sb.dep 6 Z Z Z (Sb.dep 8 Z Z Z Sb.nil))) ?_
         refine vX (.ptr 1 (Int.toNat (IntKind.i64.wrap (s234 - 1)) * 1)) (OpV.ixW hx337 Z runUnderlying39 sizeOf3) ?_ (gT hg336)
         exact WO.nil Post1.mk
       ·
         refine OB [(144, _), (148, _)] 149 Z Z Z (Sb.dep 5 Z Z Z (Sb.dep 9 Z Z Z Sb.nil)) ?_
         refine vX (.int .i64 x337) (OpV.load Z isAgg3 Z (Pts.ofRow0 hx337)) ?_ (gT hg336)
         exact WO.nil Post1.mk
       ·
         refine OB [(9, _), (144, _)] 150 Z Z Z (Sb.old Z Z (Sb.dep 5 Z Z Z Sb.nil)) ?_
         exact Sg (gT hg336) Z Wp
       ·
         refine OB [(13, _), (144, _)] 151 Z Z Z (Sb.old Z Z (Sb.dep 5 Z Z Z Sb.nil)) ?_
         exact Sg (gT hg336) Z Wp
       ·
         refine OB [(144, _), (150, _), (151, _)] 152 Z Z Z (Sb.dep 5 Z Z Z (Sb.dep 11 Z Z Z (Sb.dep 12 Z Z Z Sb.nil))) ?_
         refine vX (.ptr 1 (Int.toNat s234 * 1)) (OpV.ixW hx338 Z runUnderlying39 sizeOf3) ?_ (gT hg336)
         exact WO.nil Post1.mk
       ·
         refine OB [(144, _), (152, _)] 153 Z Z Z (Sb.dep 5 Z Z Z (Sb.dep 13 Z Z Z Sb.nil)) ?_
         refine vX (.int .i64 x338) (OpV.load Z isAgg3 Z (Pts.ofRow0 hx338)) ?_ (gT hg336)
         exact WO.nil Post1.mk
       ·
         refine OB [(144, _), (149, _), (153, _)] 154 Z Z Z (Sb.dep 5 Z Z Z (Sb.dep 10 Z Z Z (Sb.dep 14 Z Z Z Sb.nil))) ?_
         exact Sg (gT hg336) Z Wp
       ·
         refine OB [(141, _), (144, _), (154, _)] 155 Z Z Z (Sb.dep 2 Z Z Z (Sb.dep 5 Z Z Z (Sb.dep 15 Z Z Z Sb.nil))) ?_
         exact Pkg (gT hg335) hg336 Z Wp
       ·
         refine OB [(141, _), (155, _)] 156 Z Z Z (Sb.dep 2 Z Z Z (Sb.dep 16 Z Z Z Sb.nil)) ?_
         exact Pk hg335 Z Wp
       ·
         refine OB [(156, _)] 157 Z Z Z (Sb.dep 17 Z Z Z Sb.nil) ?_
         exact S Z Wp
       ·
         refine OB [(11, _), (157, _)] 158 Z Z Z (Sb.old Z Z (Sb.dep 18 Z Z Z Sb.nil)) ?_
         exact Sg (gT hg339) Z Wp
       ·
         refine OB [(9, _), (157, _)] 159 Z Z Z (Sb.old Z Z (Sb.dep 18 Z Z Z Sb.nil)) ?_
         exact Sg (gT hg339) Z Wp
       ·
         refine OB [(13, _), (157, _)] 160 Z Z Z (Sb.old Z Z (Sb.dep 18 Z Z Z Sb.nil)) ?_
         exact Sg (gT hg339) Z Wp
       ·
         refine OB [(157, _), (159, _), (160, _)] 161 Z Z Z (Sb.dep 18 Z Z Z (Sb.dep 20 Z Z Z (Sb.dep 21 Z Z Z Sb.nil))) ?_
         refine vX (.ptr 1 (Int.toNat s234 * 1)) (OpV.ixW hx340 Z runUnderlying39 sizeOf3) ?_ (gT hg339)
         exact WO.nil Post1.mk
       ·
         refine OB [(157, _), (161, _)] 162 Z Z Z (Sb.dep 18 Z Z Z (Sb.dep 22 Z Z Z Sb.nil)) ?_
         refine vX (.int .i64 x340) (OpV.load Z isAgg3 Z (Pts.ofRow0 hx340)) ?_ (gT hg339)
         exact WO.nil Post1.mk
      refine Bd h334 fun r341 hr341 h334 => ?_
      refine WO.callB (OpC.fn call20 rfl rfl rfl) (LookL.cons rfl (.inr ⟨_, _, _, _, _, rfl, rfl, List.length_map .., rfl⟩) (LookL.cons rfl (.inl ⟨rfl, rfl⟩) LookL.nil)) (k_q _ _ _ _ hr341) (by rintro _ _ ⟨rfl, rfl⟩; rfl) ?_ (gT hg339)
      rintro _ _ ⟨rfl, rfl⟩
      refine aV (.bool r341) [_, _, _] Z Z ?_
      refine Sg (gT hg339) Z (Pk hg339 Z (WO.nil ?_))
      obtain rfl := Oi h334
      exact cutN (Lr [0, 1, 2])
    ·
     obtain ⟨x342, hx342, h334⟩ := bnd h334
     refine TC.draw 24 0 [139, 140, 141, 142, 143, 144, 145, 146, 147, 148, 149, 150, 151, 152, 153, 154, 155, 156, 157, 158, 159, 160, 161, 162] [0, 0, 0, 0, 0, 0, 0, 0, 0, 0, 0, 0, 0, 0, 0, 0, 0, 0, 0, 0, 0, 0, 0, 0] [false, false, false, false, false, false, false, false, false, false, false, false, false, false, false, false, false, false, false, false, false, false, false, false] [.bool b291, .bool (!b291), .bool (!b291), .int .i64 s234, .bool (decide (0 < s234)), .bool (decide (0 < s234)), .tup [], .tup [], .tup [], .tup [], .tup [], .tup [], .tup [], .tup [], .tup [], .tup [], .bool false, .bool false, .bool false, .osl 2 0 r13.1.length 1, .osl 1 0 r12.1.length 1, .int .i64 s234, .ptr 1 (Int.toNat s234 * 1), .int .i64 x342] [[.cells 33 (Course.c a1), .row 3 1 (List.map (encI .i64) r12.1), .row 3 1 (List.map (encI .i64) r13.1)]] ([.cells 33 (Course.c a1), .row 3 1 (List.map (encI .i64) r12.1), .row 3 1 (List.map (encI .i64) r13.1)]) draws Z Z Z Z Z Z Z Z ?_ ?_
     ·
      refine Ob.cons ?_ (Ob.cons ?_ (Ob.cons ?_ (Ob.cons ?_ (Ob.cons ?_ (Ob.cons ?_ (Ob.cons ?_ (Ob.cons ?_ (Ob.cons ?_ (Ob.cons ?_ (Ob.cons ?_ (Ob.cons ?_ (Ob.cons ?_ (Ob.cons ?_ (Ob.cons ?_ (Ob.cons ?_ (Ob.cons ?_ (Ob.cons ?_ (Ob.cons ?_ (Ob.cons ?_ (Ob.cons ?_ (Ob.cons ?_ (Ob.cons ?_ (Ob.cons ?_ (Ob.nil))))))))))))))))))))))))
      ·
        refine OB [(14, _)] 139 Z Z Z (Sb.old Z Z Sb.nil) ?_
        exact S Z Wp
      ·
        refine OB [(139, _)] 140 Z Z Z (Sb.dep 0 Z Z Z Sb.nil) ?_
        exact S Z Wp
      ·
        refine OB [(140, _)] 141 Z Z Z (Sb.dep 1 Z Z Z Sb.nil) ?_
        exact S Z Wp
      ·
        refine OB [(13, _), (141, _)] 142 Z Z Z (Sb.old Z Z (Sb.dep 2 Z Z Z Sb.nil)) ?_
        exact Sg (gT hg335) Z Wp
      ·
        refine OB [(141, _), (142, _)] 143 Z Z Z (Sb.dep 2 Z Z Z (Sb.dep 3 Z Z Z Sb.nil)) ?_
        exact Sg (gT hg335) Z Wp
      ·
        refine OB [(141, _), (143, _)] 144 Z Z Z (Sb.dep 2 Z Z Z (Sb.dep 4 Z Z Z Sb.nil)) ?_
        exact Sg (gT hg335) Z Wp
      ·
        refine OB [(9, _), (144, _)] 145 Z Z Z (Sb.old Z Z (Sb.dep 5 Z Z Z Sb.nil)) ?_
        exact K (gF hg336) Z Wp
      ·
        refine OB [(13, _), (144, _)] 146 Z Z Z (Sb.old Z Z (Sb.dep 5 Z Z Z Sb.nil)) ?_
        exact K (gF hg336) Z Wp
      ·
        refine OB [(144, _), (146, _)] 147 Z Z Z (Sb.dep 5 Z Z Z (Sb.dep 7 Z Z Z Sb.nil)) ?_
        exact K (gF hg336) Z Wp
      ·
        refine OB [(144, _), (145, _), (147, _)] 148 Z Z Z (Sb.dep 5 Z Z Z (Sb.dep 6 Z Z Z (Sb.dep 8 Z Z Z Sb.nil))) ?_
        exact K (gF hg336) Z Wp
      ·
        refine OB [(144, _), (148, _)] 149 Z Z Z (Sb.dep 5 Z Z Z (Sb.dep 9 Z Z Z Sb.nil)) ?_
        exact K (gF hg336) Z Wp
      ·
        refine OB [(9, _), (144, _)] 150 Z Z Z (Sb.old Z Z (Sb.dep 5 Z Z Z Sb.nil)) ?_
        exact K (gF hg336) Z Wp
      ·
        refine OB [(13, _), (144, _)] 151 Z Z Z (Sb.old Z Z (Sb.dep 5 Z Z Z Sb.nil)) ?_
        exact K (gF hg336) Z Wp
      ·
        refine OB [(144, _), (150, _), (151, _)] 152 Z Z Z (Sb.dep 5 Z Z Z (Sb.dep 11 Z Z Z (Sb.dep 12 Z Z Z Sb.nil))) ?_
        exact K (gF hg336) Z Wp
      ·
        refine OB [(144, _), (152, _)] 153 Z Z Z (Sb.dep 5 Z Z Z (Sb.dep 13 Z Z Z Sb.nil)) ?_
        exact K (gF hg336) Z Wp
      ·
        refine OB [(144, _), (149, _), (153, _)] 154 Z Z Z (Sb.dep 5 Z Z Z (Sb.dep 10 Z Z Z (Sb.dep 14 Z Z Z Sb.nil))) ?_
        exact K (gF hg336) Z Wp
      ·
        refine OB [(141, _), (144, _), (154, _)] 155 Z Z Z (Sb.dep 2 Z Z Z (Sb.dep 5 Z Z Z (Sb.dep 15 Z Z Z Sb.nil))) ?_
        exact Pkg (gT hg335) hg336 Z Wp
      ·
        refine OB [(141, _), (155, _)] 156 Z Z Z (Sb.dep 2 Z Z Z (Sb.dep 16 Z Z Z Sb.nil)) ?_
        exact Pk hg335 Z Wp
      ·
        refine OB [(156, _)] 157 Z Z Z (Sb.dep 17 Z Z Z Sb.nil) ?_
        exact S Z Wp
      ·
        refine OB [(11, _), (157, _)] 158 Z Z Z (Sb.old Z Z (Sb.dep 18 Z Z Z Sb.nil)) ?_
        exact Sg (gT Z) Z Wp
      ·
        refine OB [(9, _), (157, _)] 159 Z Z Z (Sb.old Z Z (Sb.dep 18 Z Z Z Sb.nil)) ?_
        exact Sg (gT Z) Z Wp
      ·
        refine OB [(13, _), (157, _)] 160 Z Z Z (Sb.old Z Z (Sb.dep 18 Z Z Z Sb.nil)) ?_
        exact Sg (gT Z) Z Wp
      ·
        refine OB [(157, _), (159, _), (160, _)] 161 Z Z Z (Sb.dep 18 Z Z Z (Sb.dep 20 Z Z Z (Sb.dep 21 Z Z Z Sb.nil))) ?_
        refine vX (.ptr 1 (Int.toNat s234 * 1)) (OpV.ixW hx342 Z runUnderlying39 sizeOf3) ?_ (gT Z)
        exact WO.nil Post1.mk
      ·
        refine OB [(157, _), (161, _)] 162 Z Z Z (Sb.dep 18 Z Z Z (Sb.dep 22 Z Z Z Sb.nil)) ?_
        refine vX (.int .i64 x342) (OpV.load Z isAgg3 Z (Pts.ofRow0 hx342)) ?_ (gT Z)
        exact WO.nil Post1.mk
     refine Bd h334 fun r343 hr343 h334 => ?_
     refine WO.callB (OpC.fn call20 rfl rfl rfl) (LookL.cons rfl (.inr ⟨_, _, _, _, _, rfl, rfl, List.length_map .., rfl⟩) (LookL.cons rfl (.inl ⟨rfl, rfl⟩) LookL.nil)) (k_q _ _ _ _ hr343) (by rintro _ _ ⟨rfl, rfl⟩; rfl) ?_ (gT rfl)
     rintro _ _ ⟨rfl, rfl⟩
     refine aV (.bool r343) [_, _, _] Z Z ?_
     refine Sg (gT Z) Z (S Z (WO.nil ?_))
     obtain rfl := Oi h334
     exact cutN (Lr [0, 1, 2])
  refine seqN (TC.le hle (Cn Z h236 (fun hc344 h236 => ?_) (fun hc344 h236 => ?_)))
  ·
   refine Rg (S Z (Nx (TC.ret (bloR (seqR (loopR h236 ?_))))))
   obtain rfl := hb233 _ (Oi h236).symm
   refine bloR (cutER (seqR ?_))
   obtain rfl := Oi h
   refine ⟨[(8, _)], _, _, ?_, ResOK.one Z Z, Z, Z⟩
   exact Lr []
  exact TC.skip (bloN (seqN (TC.region (S Z (S Z (S Z (WO.nil (loopN h236 (Lr [0, 1, 2])))))))))
 subst hbe
 refine seqN (TC.le hle (TC.seq (Rg (S Z (Nx (Bd h fun b402 h403 h => ?_))))))
 refine TC.cutE (b := b402) (fun sb402 => []) (fun sb402 => []) ?_ (fun sb402 env H hbe hle => ?_)
 ·
  refine TC.block ?_
  refine TC.loop (E := fun s405 => [(1, .rsl 8 (List.map Starter.c a2)), (2, .int .i64 a3), (3, .int .i64 a4), (4, .ptr 0 0), (9, .osl 1 0 r12.1.length 1), (16, .int .i64 s405)]) (Hp := fun s405 => [.cells 33 (Course.c a1), .row 3 1 (List.map (encI .i64) r12.1)]) h403 ?_ ?_
  ·
   exact Lr [0, 1]
  intro s405 d406 h407 hb404
  refine TC.seq (Rg (S Z (S Z (LnM runUnderlying34 Z (S Z (Nx (CnS Z h407 (fun hc408 h407 => ?_) (fun hc408 h407 => ?_))))))))
  ·
   refine ExX (loopX h407 ?_)
   obtain rfl := hb404 _ (Oi h407).symm
   exact bloE (cutEN Z (Lr []))
  refine SkN (TC.seq (TC.block (TC.seq (Bd h407 fun b417 h418 h407 => ?_))))
  refine TC.cut ([(1, .rsl 8 (List.map Starter.c a2)), (2, .int .i64 a3), (3, .int .i64 a4), (4, .ptr 0 0), (9, .osl 1 0 r12.1.length 1), (16, .int .i64 s405), (17, .bool b417)]) ([.cells 33 (Course.c a1), .row 3 1 (List.map (encI .i64) r12.1)]) ?_ (fun env H hle => ?_)
  ·
   obtain ⟨x419, hx419, h418⟩ := bnd h418
   refine If h418 (fun hg420 h418 => ?_) (fun hg420 h418 => ?_)
   ·
    refine If h418 (fun hg421 h418 => ?_) (fun hg421 h418 => ?_)
    ·
     refine TC.draw 35 0 [172, 173, 174, 175, 176, 177, 178, 179, 180, 181, 182, 183, 184, 185, 186, 187, 188, 189, 190, 191, 192, 193, 194, 195, 196, 197, 198, 199, 200, 201, 202, 203, 204, 205, 206] [0, 0, 0, 0, 0, 0, 0, 0, 0, 0, 0, 0, 0, 0, 0, 0, 0, 0, 0, 0, 0, 0, 0, 0, 0, 0, 0, 0, 0, 0, 0, 0, 0, 0, 0] [false, false, false, false, false, false, false, false, false, false, false, false, false, false, false, false, false, false, false, false, false, false, false, false, false, false, false, false, false, false, false, false, false, false, false] [.rsl 8 (List.map Starter.c a2), .int .i64 s405, .rp [.int .i64 x419.Bib, .int .i64 x419.Distance, .int .i64 x419.Wave, .int .i64 x419.Slot, .int .i64 x419.Age, .int .i64 x419.Chip, .int .i64 x419.Team, .int .i64 x419.Lot], .rp [.int .i64 x419.Distance, .int .i64 x419.Wave, .int .i64 x419.Slot, .int .i64 x419.Age, .int .i64 x419.Chip, .int .i64 x419.Team, .int .i64 x419.Lot], .int .i64 x419.Distance, .int .i64 a3, .bool (x419.Distance == a3), .bool (x419.Distance == a3), .int .i64 a4, .bool (a4 == (-1)), .bool (a4 == (-1)), .tup [], .tup [], .tup [], .tup [], .tup [], .tup [], .tup [], .tup [], .tup [], .tup [], .tup [], .tup [], .tup [], .tup [], .tup [], .tup [], .tup [], .tup [], .tup [], .tup [], .tup [], .tup [], .tup [], .tup []] [[.cells 33 (Course.c a1), .row 3 1 (List.map (encI .i64) r12.1)]] ([.cells 33 (Course.c a1), .row 3 1 (List.map (encI .i64) r12.1)]) draws Z Z Z Z Z Z Z Z ?_ ?_
     ·
      refine Ob.cons ?_ (Ob.cons ?_ (Ob.cons ?_ (Ob.cons ?_ (Ob.cons ?_ (Ob.cons ?_ (Ob.cons ?_ (Ob.cons ?_ (Ob.cons ?_ (Ob.cons ?_ (Ob.cons ?_ (Ob.cons ?_ (Ob.cons ?_ (Ob.cons ?_ (Ob.cons ?_ (Ob.cons ?_ (Ob.cons ?_ (Ob.cons ?_ (Ob.cons ?_ (Ob.cons ?_ (Ob.cons ?_ (Ob.cons ?_ (Ob.cons ?_ (Ob.cons ?_ (Ob.cons ?_ (Ob.cons ?_ (Ob.cons ?_ (Ob.cons ?_ (Ob.cons ?_ (Ob.cons ?_ (Ob.cons ?_ (Ob.cons ?_ (Ob.cons ?_ (Ob.cons ?_ (Ob.cons ?_ (Ob.nil)))))))))))))))))))))))))))))))))))
      ·
        refine OB [(1, _)] 172 Z Z Z (Sb.old Z Z Sb.nil) ?_
        exact S Z Wp
      ·
        refine OB [(16, _)] 173 Z Z Z (Sb.old Z Z Sb.nil) ?_
        exact S Z Wp
      ·
        refine OB [(172, _), (173, _)] 174 Z Z Z (Sb.dep 0 Z Z Z (Sb.dep 1 Z Z Z Sb.nil)) ?_
        exact Ix hx419 runUnderlying34 sizeOf42 Z Wp
      ·
        refine OB [(174, _)] 175 Z Z Z (Sb.dep 2 Z Z Z Sb.nil) ?_
        exact Fr fa_42_1 Z Wp
      ·
        refine OB [(175, _)] 176 Z Z Z (Sb.dep 3 Z Z Z Sb.nil) ?_
        exact Ld isAgg3 Z Wp
      ·
        refine OB [(2, _)] 177 Z Z Z (Sb.old Z Z Sb.nil) ?_
        exact S Z Wp
      ·
        refine OB [(176, _), (177, _)] 178 Z Z Z (Sb.dep 4 Z Z Z (Sb.dep 5 Z Z Z Sb.nil)) ?_
        exact S Z Wp
      ·
        refine OB [(178, _)] 179 Z Z Z (Sb.dep 6 Z Z Z Sb.nil) ?_
        exact S Z Wp
      ·
        refine OB [(3, _), (179, _)] 180 Z Z Z (Sb.old Z Z (Sb.dep 7 Z Z Z Sb.nil)) ?_
        exact Sg (gT hg420) Z Wp
      ·
        refine OB [(179, _), (180, _)] 181 Z Z Z (Sb.dep 7 Z Z Z (Sb.dep 8 Z Z Z Sb.nil)) ?_
        exact Sg (gT hg420) Z Wp
      ·
        refine OB [(179, _), (181, _)] 182 Z Z Z (Sb.dep 7 Z Z Z (Sb.dep 9 Z Z Z Sb.nil)) ?_
        exact Sg (gT hg420) Z Wp
      ·
        refine OB [(4, _), (182, _)] 183 Z Z Z (Sb.old Z Z (Sb.dep 10 Z Z Z Sb.nil)) ?_
        exact K (gF hg421) Z Wp
      ·
        refine OB [(182, _), (183, _)] 184 Z Z Z (Sb.dep 10 Z Z Z (Sb.dep 11 Z Z Z Sb.nil)) ?_
        exact K (gF hg421) Z Wp
      ·
        refine OB [(3, _), (182, _)] 185 Z Z Z (Sb.old Z Z (Sb.dep 10 Z Z Z Sb.nil)) ?_
        exact K (gF hg421) Z Wp
      ·
        refine OB [(182, _), (184, _), (185, _)] 186 Z Z Z (Sb.dep 10 Z Z Z (Sb.dep 12 Z Z Z (Sb.dep 13 Z Z Z Sb.nil))) ?_
        exact K (gF hg421) Z Wp
      ·
        refine OB [(182, _), (186, _)] 187 Z Z Z (Sb.dep 10 Z Z Z (Sb.dep 14 Z Z Z Sb.nil)) ?_
        exact K (gF hg421) Z Wp
      ·
        refine OB [(182, _), (187, _)] 188 Z Z Z (Sb.dep 10 Z Z Z (Sb.dep 15 Z Z Z Sb.nil)) ?_
        exact K (gF hg421) Z Wp
      ·
        refine OB [(1, _), (182, _)] 189 Z Z Z (Sb.old Z Z (Sb.dep 10 Z Z Z Sb.nil)) ?_
        exact K (gF hg421) Z Wp
      ·
        refine OB [(16, _), (182, _)] 190 Z Z Z (Sb.old Z Z (Sb.dep 10 Z Z Z Sb.nil)) ?_
        exact K (gF hg421) Z Wp
      ·
        refine OB [(182, _), (189, _), (190, _)] 191 Z Z Z (Sb.dep 10 Z Z Z (Sb.dep 17 Z Z Z (Sb.dep 18 Z Z Z Sb.nil))) ?_
        exact K (gF hg421) Z Wp
      ·
        refine OB [(182, _), (191, _)] 192 Z Z Z (Sb.dep 10 Z Z Z (Sb.dep 19 Z Z Z Sb.nil)) ?_
        exact K (gF hg421) Z Wp
      ·
        refine OB [(182, _), (192, _)] 193 Z Z Z (Sb.dep 10 Z Z Z (Sb.dep 20 Z Z Z Sb.nil)) ?_
        exact K (gF hg421) Z Wp
      ·
        refine OB [(182, _), (188, _), (193, _)] 194 Z Z Z (Sb.dep 10 Z Z Z (Sb.dep 16 Z Z Z (Sb.dep 21 Z Z Z Sb.nil))) ?_
        exact K (gF hg421) Z Wp
      ·
        refine OB [(182, _), (194, _)] 195 Z Z Z (Sb.dep 10 Z Z Z (Sb.dep 22 Z Z Z Sb.nil)) ?_
        exact K (gF hg421) Z Wp
      ·
        refine OB [(1, _), (195, _)] 196 Z Z Z (Sb.old Z Z (Sb.dep 23 Z Z Z Sb.nil)) ?_
        exact K gU Z Wp
      ·
        refine OB [(16, _), (195, _)] 197 Z Z Z (Sb.old Z Z (Sb.dep 23 Z Z Z Sb.nil)) ?_
        exact K gU Z Wp
      ·
        refine OB [(195, _), (196, _), (197, _)] 198 Z Z Z (Sb.dep 23 Z Z Z (Sb.dep 24 Z Z Z (Sb.dep 25 Z Z Z Sb.nil))) ?_
        exact K gU Z Wp
      ·
        refine OB [(195, _), (198, _)] 199 Z Z Z (Sb.dep 23 Z Z Z (Sb.dep 26 Z Z Z Sb.nil)) ?_
        exact K gU Z Wp
      ·
        refine OB [(195, _), (199, _)] 200 Z Z Z (Sb.dep 23 Z Z Z (Sb.dep 27 Z Z Z Sb.nil)) ?_
        exact K gU Z Wp
      ·
        refine OB [(4, _), (195, _)] 201 Z Z Z (Sb.old Z Z (Sb.dep 23 Z Z Z Sb.nil)) ?_
        exact K gU Z Wp
      ·
        refine OB [(195, _), (201, _)] 202 Z Z Z (Sb.dep 23 Z Z Z (Sb.dep 29 Z Z Z Sb.nil)) ?_
        exact K gU Z Wp
      ·
        refine OB [(3, _), (195, _)] 203 Z Z Z (Sb.old Z Z (Sb.dep 23 Z Z Z Sb.nil)) ?_
        exact K gU Z Wp
      ·
        refine OB [(195, _), (202, _), (203, _)] 204 Z Z Z (Sb.dep 23 Z Z Z (Sb.dep 30 Z Z Z (Sb.dep 31 Z Z Z Sb.nil))) ?_
        exact K gU Z Wp
      ·
        refine OB [(195, _), (204, _)] 205 Z Z Z (Sb.dep 23 Z Z Z (Sb.dep 32 Z Z Z Sb.nil)) ?_
        exact K gU Z Wp
      ·
        refine OB [(195, _), (205, _)] 206 Z Z Z (Sb.dep 23 Z Z Z (Sb.dep 33 Z Z Z Sb.nil)) ?_
        exact K gU Z Wp
     refine KU Z (KF hg421 Z (Pkg (gT hg420) hg421 Z (Pk hg420 Z (S Z (WO.nil ?_)))))
     obtain rfl := Oi h418
     exact cutN (Lr [0, 1])
    ·
     obtain ⟨x422, hx422, h418⟩ := bnd h418
     obtain ⟨x423, hx423, h418⟩ := bnd h418
     refine If h418 (fun hg424 h418 => ?_) (fun hg424 h418 => ?_)
     ·
      obtain ⟨x425, hx425, h418⟩ := bnd h418
      obtain ⟨x426, hx426, h418⟩ := bnd h418
      refine TC.draw 35 0 [172, 173, 174, 175, 176, 177, 178, 179, 180, 181, 182, 183, 184, 185, 186, 187, 188, 189, 190, 191, 192, 193, 194, 195, 196, 197, 198, 199, 200, 201, 202, 203, 204, 205, 206] [0, 0, 0, 0, 0, 0, 0, 0, 0, 0, 0, 0, 0, 0, 0, 0, 0, 0, 0, 0, 0, 0, 0, 0, 0, 0, 0, 0, 0, 0, 0, 0, 0, 0, 0] [false, false, false, false, false, false, false, false, false, false, false, false, false, false, false, false, false, false, false, false, false, false, false, false, false, false, false, false, false, false, false, false, false, false, false] [.rsl 8 (List.map Starter.c a2), .int .i64 s405, .rp [.int .i64 x419.Bib, .int .i64 x419.Distance, .int .i64 x419.Wave, .int .i64 x419.Slot, .int .i64 x419.Age, .int .i64 x419.Chip, .int .i64 x419.Team, .int .i64 x419.Lot], .rp [.int .i64 x419.Distance, .int .i64 x419.Wave, .int .i64 x419.Slot, .int .i64 x419.Age, .int .i64 x419.Chip, .int .i64 x419.Team, .int .i64 x419.Lot], .int .i64 x419.Distance, .int .i64 a3, .bool (x419.Distance == a3), .bool (x419.Distance == a3), .int .i64 a4, .bool (a4 == (-1)), .bool (a4 == (-1)), .ptr 0 6, .rsl 3 (List.map Category.c a1.Categories), .int .i64 a4, .rp [.str x422.Name, .int .i64 x422.From, .int .i64 x422.To], .rp [.int .i64 x422.From, .int .i64 x422.To], .int .i64 x422.From, .rsl 8 (List.map Starter.c a2), .int .i64 s405, .rp [.int .i64 x423.Bib, .int .i64 x423.Distance, .int .i64 x423.Wave, .int .i64 x423.Slot, .int .i64 x423.Age, .int .i64 x423.Chip, .int .i64 x423.Team, .int .i64 x423.Lot], .rp [.int .i64 x423.Age, .int .i64 x423.Chip, .int .i64 x423.Team, .int .i64 x423.Lot], .int .i64 x423.Age, .bool (decide (x422.From ≤ x423.Age)), .bool (decide (x422.From ≤ x423.Age)), .rsl 8 (List.map Starter.c a2), .int .i64 s405, .rp [.int .i64 x425.Bib, .int .i64 x425.Distance, .int .i64 x425.Wave, .int .i64 x425.Slot, .int .i64 x425.Age, .int .i64 x425.Chip, .int .i64 x425.Team, .int .i64 x425.Lot], .rp [.int .i64 x425.Age, .int .i64 x425.Chip, .int .i64 x425.Team, .int .i64 x425.Lot], .int .i64 x425.Age, .ptr 0 6, .rsl 3 (List.map Category.c a1.Categories), .int .i64 a4, .rp [.str x426.Name, .int .i64 x426.From, .int .i64 x426.To], .rp [.int .i64 x426.To], .int .i64 x426.To] [[.cells 33 (Course.c a1), .row 3 1 (List.map (encI .i64) r12.1)]] ([.cells 33 (Course.c a1), .row 3 1 (List.map (encI .i64) r12.1)]) draws Z Z Z Z Z Z Z Z ?_ ?_
      ·
       refine Ob.cons ?_ (Ob.cons ?_ (Ob.cons ?_ (Ob.cons ?_ (Ob.cons ?_ (Ob.cons ?_ (Ob.cons ?_ (Ob.cons ?_ (Ob.cons ?_ (Ob.cons ?_ (Ob.cons ?_ (Ob.cons ?_ (Ob.cons ?_ (Ob.cons ?_ (Ob.cons ?_ (Ob.cons ?_ (Ob.cons ?_ (Ob.cons ?_ (Ob.cons ?_ (Ob.cons ?_ (Ob.cons ?_ (Ob.cons ?_ (Ob.cons ?_ (Ob.cons ?_ (Ob.cons ?_ (Ob.cons ?_ (Ob.cons ?_ (Ob.cons ?_ (Ob.cons ?_ (Ob.cons ?_ (Ob.cons ?_ (Ob.cons ?_ (Ob.cons ?_ (Ob.cons ?_ (Ob.cons ?_ (Ob.nil)))))))))))))))))))))))))))))))))))
       ·
         refine OB [(1, _)] 172 Z Z Z (Sb.old Z Z Sb.nil) ?_
         exact S Z Wp
       ·
         refine OB [(16, _)] 173 Z Z Z (Sb.old Z Z Sb.nil) ?_
         exact S Z Wp
       ·
         refine OB [(172, _), (173, _)] 174 Z Z Z (Sb.dep 0 Z Z Z (Sb.dep 1 Z Z Z Sb.nil)) ?_
         exact Ix hx419 runUnderlying34 sizeOf42 Z Wp
       ·
         refine OB [(174, _)] 175 Z Z Z (Sb.dep 2 Z Z Z Sb.nil) ?_
         exact Fr fa_42_1 Z Wp
       ·
         refine OB [(175, _)] 176 Z Z Z (Sb.dep 3 Z Z Z Sb.nil) ?_
         exact Ld isAgg3 Z Wp
       ·
         refine OB [(2, _)] 177 Z Z Z (Sb.old Z Z Sb.nil) ?_
         exact S Z Wp
       ·
         refine OB [(176, _), (177, _)] 178 Z Z Z (Sb.dep 4 Z Z Z (Sb.dep 5 Z Z Z Sb.nil)) ?_
         exact S Z Wp
       ·
         refine OB [(178, _)] 179 Z Z Z (Sb.dep 6 Z Z Z Sb.nil) ?_
         exact S Z Wp
       ·
         refine OB [(3, _), (179, _)] 180 Z Z Z (Sb.old Z Z (Sb.dep 7 Z Z Z Sb.nil)) ?_
         exact Sg (gT hg420) Z Wp
       ·
         refine OB [(179, _), (180, _)] 181 Z Z Z (Sb.dep 7 Z Z Z (Sb.dep 8 Z Z Z Sb.nil)) ?_
         exact Sg (gT hg420) Z Wp
       ·
         refine OB [(179, _), (181, _)] 182 Z Z Z (Sb.dep 7 Z Z Z (Sb.dep 9 Z Z Z Sb.nil)) ?_
         exact Sg (gT hg420) Z Wp
       ·
         refine OB [(4, _), (182, _)] 183 Z Z Z (Sb.old Z Z (Sb.dep 10 Z Z Z Sb.nil)) ?_
         exact Fpg (gT hg421) fa_33_6 Z Wp
       ·
         refine OB [(182, _), (183, _)] 184 Z Z Z (Sb.dep 10 Z Z Z (Sb.dep 11 Z Z Z Sb.nil)) ?_
         exact Ldg (gT hg421) isAgg27 Z Wp
       ·
         refine OB [(3, _), (182, _)] 185 Z Z Z (Sb.old Z Z (Sb.dep 10 Z Z Z Sb.nil)) ?_
         exact Sg (gT hg421) Z Wp
       ·
         refine OB [(182, _), (184, _), (185, _)] 186 Z Z Z (Sb.dep 10 Z Z Z (Sb.dep 12 Z Z Z (Sb.dep 13 Z Z Z Sb.nil))) ?_
         refine vX (.rp [.str x422.Name, .int .i64 x422.From, .int .i64 x422.To]) (OpV.ixM (e := Category.c) (l := a1.Categories) (v := x422) hx422 runUnderlying27 sizeOf52) ?_ (gT hg421)
         exact WO.nil Post1.mk
       ·
         refine OB [(182, _), (186, _)] 187 Z Z Z (Sb.dep 10 Z Z Z (Sb.dep 14 Z Z Z Sb.nil)) ?_
         exact Frg (gT hg421) fa_52_1 Z Wp
       ·
         refine OB [(182, _), (187, _)] 188 Z Z Z (Sb.dep 10 Z Z Z (Sb.dep 15 Z Z Z Sb.nil)) ?_
         exact Ldg (gT hg421) isAgg3 Z Wp
       ·
         refine OB [(1, _), (182, _)] 189 Z Z Z (Sb.old Z Z (Sb.dep 10 Z Z Z Sb.nil)) ?_
         exact Sg (gT hg421) Z Wp
       ·
         refine OB [(16, _), (182, _)] 190 Z Z Z (Sb.old Z Z (Sb.dep 10 Z Z Z Sb.nil)) ?_
         exact Sg (gT hg421) Z Wp
       ·
         refine OB [(182, _), (189, _), (190, _)] 191 Z Z Z (Sb.dep 10 Z Z Z (Sb.dep 17 Z Z Z (Sb.dep 18 Z Z Z Sb.nil))) ?_
         refine vX (.rp [.int .i64 x423.Bib, .int .i64 x423.Distance, .int .i64 x423.Wave, .int .i64 x423.Slot, .int .i64 x423.Age, .int .i64 x423.Chip, .int .i64 x423.Team, .int .i64 x423.Lot]) (OpV.ixM (e := Starter.c) (l := a2) (v := x423) hx423 runUnderlying34 sizeOf42) ?_ (gT hg421)
         exact WO.nil Post1.mk
       ·
         refine OB [(182, _), (191, _)] 192 Z Z Z (Sb.dep 10 Z Z Z (Sb.dep 19 Z Z Z Sb.nil)) ?_
         exact Frg (gT hg421) fa_42_4 Z Wp
       ·
         refine OB [(182, _), (192, _)] 193 Z Z Z (Sb.dep 10 Z Z Z (Sb.dep 20 Z Z Z Sb.nil)) ?_
         exact Ldg (gT hg421) isAgg3 Z Wp
       ·
         refine OB [(182, _), (188, _), (193, _)] 194 Z Z Z (Sb.dep 10 Z Z Z (Sb.dep 16 Z Z Z (Sb.dep 21 Z Z Z Sb.nil))) ?_
         exact Sg (gT hg421) Z Wp
       ·
         refine OB [(182, _), (194, _)] 195 Z Z Z (Sb.dep 10 Z Z Z (Sb.dep 22 Z Z Z Sb.nil)) ?_
         exact Sg (gT hg421) Z Wp
       ·
         refine OB [(1, _), (195, _)] 196 Z Z Z (Sb.old Z Z (Sb.dep 23 Z Z Z Sb.nil)) ?_
         exact Sg (gT hg424) Z Wp
       ·
         refine OB [(16, _), (195, _)] 197 Z Z Z (Sb.old Z Z (Sb.dep 23 Z Z Z Sb.nil)) ?_
         exact Sg (gT hg424) Z Wp
       ·
         refine OB [(195, _), (196, _), (197, _)] 198 Z Z Z (Sb.dep 23 Z Z Z (Sb.dep 24 Z Z Z (Sb.dep 25 Z Z Z Sb.nil))) ?_
         refine vX (.rp [.int .i64 x425.Bib, .int .i64 x425.Distance, .int .i64 x425.Wave, .int .i64 x425.Slot, .int .i64 x425.Age, .int .i64 x425.Chip, .int .i64 x425.Team, .int .i64 x425.Lot]) (OpV.ixM (e := Starter.c) (l := a2) (v := x425) hx425 runUnderlying34 sizeOf42) ?_ (gT hg424)
         exact WO.nil Post1.mk
       ·
         refine OB [(195, _), (198, _)] 199 Z Z Z (Sb.dep 23 Z Z Z (Sb.dep 26 Z Z Z Sb.nil)) ?_
         exact Frg (gT hg424) fa_42_4 Z Wp
       ·
         refine OB [(195, _), (199, _)] 200 Z Z Z (Sb.dep 23 Z Z Z (Sb.dep 27 Z Z Z Sb.nil)) ?_
         exact Ldg (gT hg424) isAgg3 Z Wp
       ·
         refine OB [(4, _), (195, _)] 201 Z Z Z (Sb.old Z Z (Sb.dep 23 Z Z Z Sb.nil)) ?_
         exact Fpg (gT hg424) fa_33_6 Z Wp
       ·
         refine OB [(195, _), (201, _)] 202 Z Z Z (Sb.dep 23 Z Z Z (Sb.dep 29 Z Z Z Sb.nil)) ?_
         exact Ldg (gT hg424) isAgg27 Z Wp
       ·
         refine OB [(3, _), (195, _)] 203 Z Z Z (Sb.old Z Z (Sb.dep 23 Z Z Z Sb.nil)) ?_
         exact Sg (gT hg424) Z Wp
       ·
         refine OB [(195, _), (202, _), (203, _)] 204 Z Z Z (Sb.dep 23 Z Z Z (Sb.dep 30 Z Z Z (Sb.dep 31 Z Z Z Sb.nil))) ?_
         refine vX (.rp [.str x426.Name, .int .i64 x426.From, .int .i64 x426.To]) (OpV.ixM (e := Category.c) (l := a1.Categories) (v := x426) hx426 runUnderlying27 sizeOf52) ?_ (gT hg424)
         exact WO.nil Post1.mk
       ·
         refine OB [(195, _), (204, _)] 205 Z Z Z (Sb.dep 23 Z Z Z (Sb.dep 32 Z Z Z Sb.nil)) ?_
         exact Frg (gT hg424) fa_52_2 Z Wp
       ·
         refine OB [(195, _), (205, _)] 206 Z Z Z (Sb.dep 23 Z Z Z (Sb.dep 33 Z Z Z Sb.nil)) ?_
         exact Ldg (gT hg424) isAgg3 Z Wp
      refine Sg (gT hg424) Z (Pkg (gT hg421) hg424 Z (Pkg (gT hg420) hg421 Z (Pk hg420 Z (S Z (WO.nil ?_)))))
      obtain rfl := Oi h418
      exact cutN (Lr [0, 1])
     ·
      refine TC.draw 35 0 [172, 173, 174, 175, 176, 177, 178, 179, 180, 181, 182, 183, 184, 185, 186, 187, 188, 189, 190, 191, 192, 193, 194, 195, 196, 197, 198, 199, 200, 201, 202, 203, 204, 205, 206] [0, 0, 0, 0, 0, 0, 0, 0, 0, 0, 0, 0, 0, 0, 0, 0, 0, 0, 0, 0, 0, 0, 0, 0, 0, 0, 0, 0, 0, 0, 0, 0, 0, 0, 0] [false, false, false, false, false, false, false, false, false, false, false, false, false, false, false, false, false, false, false, false, false, false, false, false, false, false, false, false, false, false, false, false, false, false, false] [.rsl 8 (List.map Starter.c a2), .int .i64 s405, .rp [.int .i64 x419.Bib, .int .i64 x419.Distance, .int .i64 x419.Wave, .int .i64 x419.Slot, .int .i64 x419.Age, .int .i64 x419.Chip, .int .i64 x419.Team, .int .i64 x419.Lot], .rp [.int .i64 x419.Distance, .int .i64 x419.Wave, .int .i64 x419.Slot, .int .i64 x419.Age, .int .i64 x419.Chip, .int .i64 x419.Team, .int .i64 x419.Lot], .int .i64 x419.Distance, .int .i64 a3, .bool (x419.Distance == a3), .bool (x419.Distance == a3), .int .i64 a4, .bool (a4 == (-1)), .bool (a4 == (-1)), .ptr 0 6, .rsl 3 (List.map Category.c a1.Categories), .int .i64 a4, .rp [.str x422.Name, .int .i64 x422.From, .int .i64 x422.To], .rp [.int .i64 x422.From, .int .i64 x422.To], .int .i64 x422.From, .rsl 8 (List.map Starter.c a2), .int .i64 s405, .rp [.int .i64 x423.Bib, .int .i64 x423.Distance, .int .i64 x423.Wave, .int .i64 x423.Slot, .int .i64 x423.Age, .int .i64 x423.Chip, .int .i64 x423.Team, .int .i64 x423.Lot], .rp [.int .i64 x423.Age, .int .i64 x423.Chip, .int .i64 x423.Team, .int .i64 x423.Lot], .int .i64 x423.Age, .bool (decide (x422.From ≤ x423.Age)), .bool (decide (x422.From ≤ x423.Age)), .tup [], .tup [], .tup [], .tup [], .tup [], .tup [], .tup [], .tup [], .tup [], .tup [], .tup []] [[.cells 33 (Course.c a1), .row 3 1 (List.map (encI .i64) r12.1)]] ([.cells 33 (Course.c a1), .row 3 1 (List.map (encI .i64) r12.1)]) draws Z Z Z Z Z Z Z Z ?_ ?_
      ·
       refine Ob.cons ?_ (Ob.cons ?_ (Ob.cons ?_ (Ob.cons ?_ (Ob.cons ?_ (Ob.cons ?_ (Ob.cons ?_ (Ob.cons ?_ (Ob.cons ?_ (Ob.cons ?_ (Ob.cons ?_ (Ob.cons ?_ (Ob.cons ?_ (Ob.cons ?_ (Ob.cons ?_ (Ob.cons ?_ (Ob.cons ?_ (Ob.cons ?_ (Ob.cons ?_ (Ob.cons ?_ (Ob.cons ?_ (Ob.cons ?_ (Ob.cons ?_ (Ob.cons ?_ (Ob.cons ?_ (Ob.cons ?_ (Ob.cons ?_ (Ob.cons ?_ (Ob.cons ?_ (Ob.cons ?_ (Ob.cons ?_ (Ob.cons ?_ (Ob.cons ?_ (Ob.cons ?_ (Ob.cons ?_ (Ob.nil)))))))))))))))))))))))))))))))))))
       ·
         refine OB [(1, _)] 172 Z Z Z (Sb.old Z Z Sb.nil) ?_
         exact S Z Wp
       ·
         refine OB [(16, _)] 173 Z Z Z (Sb.old Z Z Sb.nil) ?_
         exact S Z Wp
       ·
         refine OB [(172, _), (173, _)] 174 Z Z Z (Sb.dep 0 Z Z Z (Sb.dep 1 Z Z Z Sb.nil)) ?_
         exact Ix hx419 runUnderlying34 sizeOf42 Z Wp
       ·
         refine OB [(174, _)] 175 Z Z Z (Sb.dep 2 Z Z Z Sb.nil) ?_
         exact Fr fa_42_1 Z Wp
       ·
         refine OB [(175, _)] 176 Z Z Z (Sb.dep 3 Z Z Z Sb.nil) ?_
         exact Ld isAgg3 Z Wp
       ·
         refine OB [(2, _)] 177 Z Z Z (Sb.old Z Z Sb.nil) ?_
         exact S Z Wp
       ·
         refine OB [(176, _), (177, _)] 178 Z Z Z (Sb.dep 4 Z Z Z (Sb.dep 5 Z Z Z Sb.nil)) ?_
         exact S Z Wp
       ·
         refine OB [(178, _)] 179 Z Z Z (Sb.dep 6 Z Z Z Sb.nil) ?_
         exact S Z Wp
       ·
         refine OB [(3, _), (179, _)] 180 Z Z Z (Sb.old Z Z (Sb.dep 7 Z Z Z Sb.nil)) ?_
         exact Sg (gT hg420) Z Wp
       ·
         refine OB [(179, _), (180, _)] 181 Z Z Z (Sb.dep 7 Z Z Z (Sb.dep 8 Z Z Z Sb.nil)) ?_
         exact Sg (gT hg420) Z Wp
       ·
         refine OB [(179, _), (181, _)] 182 Z Z Z (Sb.dep 7 Z Z Z (Sb.dep 9 Z Z Z Sb.nil)) ?_
         exact Sg (gT hg420) Z Wp
       ·
         refine OB [(4, _), (182, _)] 183 Z Z Z (Sb.old Z Z (Sb.dep 10 Z Z Z Sb.nil)) ?_
         exact Fpg (gT hg421) fa_33_6 Z Wp
       ·
         refine OB [(182, _), (183, _)] 184 Z Z Z (Sb.dep 10 Z Z Z (Sb.dep 11 Z Z Z Sb.nil)) ?_
         exact Ldg (gT hg421) isAgg27 Z Wp
       ·
         refine OB [(3, _), (182, _)] 185 Z Z Z (Sb.old Z Z (Sb.dep 10 Z Z Z Sb.nil)) ?_
         exact Sg (gT hg421) Z Wp
       ·
         refine OB [(182, _), (184, _), (185, _)] 186 Z Z Z (Sb.dep 10 Z Z Z (Sb.dep 12 Z Z Z (Sb.dep 13 Z Z Z Sb.nil))) ?_
         refine vX (.rp [.str x422.Name, .int .i64 x422.From, .int .i64 x422.To]) (OpV.ixM (e := Category.c) (l := a1.Categories) (v := x422) hx422 runUnderlying27 sizeOf52) ?_ (gT hg421)
         exact WO.nil Post1.mk
       ·
         refine OB [(182, _), (186, _)] 187 Z Z Z (Sb.dep 10 Z Z Z (Sb.dep 14 Z Z Z Sb.nil)) ?_
         exact Frg (gT hg421) fa_52_1 Z Wp
       ·
         refine OB [(182, _), (187, _)] 188 Z Z Z (Sb.dep 10 Z Z Z (Sb.dep 15 Z Z Z Sb.nil)) ?_
         exact Ldg (gT hg421) isAgg3 Z Wp
       ·
         refine OB [(1, _), (182, _)] 189 Z Z Z (Sb.old Z Z (Sb.dep 10 Z Z Z Sb.nil)) ?_
         exact Sg (gT hg421) Z Wp
       ·
         refine OB [(16, _), (182, _)] 190 Z Z Z (Sb.old Z Z (Sb.dep 10 Z Z Z Sb.nil)) ?_
         exact Sg (gT hg421) Z Wp
       ·
         refine OB [(182, _), (189, _), (190, _)] 191 Z Z Z (Sb.dep 10 Z Z Z (Sb.dep 17 Z Z Z (Sb.dep 18 Z Z Z Sb.nil))) ?_
         refine vX (.rp [.int .i64 x423.Bib, .int .i64 x423.Distance, .int .i64 x423.Wave, .int .i64 x423.Slot, .int .i64 x423.Age, .int .i64 x423.Chip, .int .i64 x423.Team, .int .i64 x423.Lot]) (OpV.ixM (e := Starter.c) (l := a2) (v := x423) hx423 runUnderlying34 sizeOf42) ?_ (gT hg421)
         exact WO.nil Post1.mk
       ·
         refine OB [(182, _), (191, _)] 192 Z Z Z (Sb.dep 10 Z Z Z (Sb.dep 19 Z Z Z Sb.nil)) ?_
         exact Frg (gT hg421) fa_42_4 Z Wp
       ·
         refine OB [(182, _), (192, _)] 193 Z Z Z (Sb.dep 10 Z Z Z (Sb.dep 20 Z Z Z Sb.nil)) ?_
         exact Ldg (gT hg421) isAgg3 Z Wp
       ·
         refine OB [(182, _), (188, _), (193, _)] 194 Z Z Z (Sb.dep 10 Z Z Z (Sb.dep 16 Z Z Z (Sb.dep 21 Z Z Z Sb.nil))) ?_
         exact Sg (gT hg421) Z Wp
       ·
         refine OB [(182, _), (194, _)] 195 Z Z Z (Sb.dep 10 Z Z Z (Sb.dep 22 Z Z Z Sb.nil)) ?_
         exact Sg (gT hg421) Z Wp
       ·
         refine OB [(1, _), (195, _)] 196 Z Z Z (Sb.old Z Z (Sb.dep 23 Z Z Z Sb.nil)) ?_
         exact K (gF hg424) Z Wp
       ·
         refine OB [(16, _), (195, _)] 197 Z Z Z (Sb.old Z Z (Sb.dep 23 Z Z Z Sb.nil)) ?_
         exact K (gF hg424) Z Wp
       ·
         refine OB [(195, _), (196, _), (197, _)] 198 Z Z Z (Sb.dep 23 Z Z Z (Sb.dep 24 Z Z Z (Sb.dep 25 Z Z Z Sb.nil))) ?_
         exact K (gF hg424) Z Wp
       ·
         refine OB [(195, _), (198, _)] 199 Z Z Z (Sb.dep 23 Z Z Z (Sb.dep 26 Z Z Z Sb.nil)) ?_
         exact K (gF hg424) Z Wp
       ·
         refine OB [(195, _), (199, _)] 200 Z Z Z (Sb.dep 23 Z Z Z (Sb.dep 27 Z Z Z Sb.nil)) ?_
         exact K (gF hg424) Z Wp
       ·
         refine OB [(4, _), (195, _)] 201 Z Z Z (Sb.old Z Z (Sb.dep 23 Z Z Z Sb.nil)) ?_
         exact K (gF hg424) Z Wp
       ·
         refine OB [(195, _), (201, _)] 202 Z Z Z (Sb.dep 23 Z Z Z (Sb.dep 29 Z Z Z Sb.nil)) ?_
         exact K (gF hg424) Z Wp
       ·
         refine OB [(3, _), (195, _)] 203 Z Z Z (Sb.old Z Z (Sb.dep 23 Z Z Z Sb.nil)) ?_
         exact K (gF hg424) Z Wp
       ·
         refine OB [(195, _), (202, _), (203, _)] 204 Z Z Z (Sb.dep 23 Z Z Z (Sb.dep 30 Z Z Z (Sb.dep 31 Z Z Z Sb.nil))) ?_
         exact K (gF hg424) Z Wp
       ·
         refine OB [(195, _), (204, _)] 205 Z Z Z (Sb.dep 23 Z Z Z (Sb.dep 32 Z Z Z Sb.nil)) ?_
         exact K (gF hg424) Z Wp
       ·
         refine OB [(195, _), (205, _)] 206 Z Z Z (Sb.dep 23 Z Z Z (Sb.dep 33 Z Z Z Sb.nil)) ?_
         exact K (gF hg424) Z Wp
      refine KF hg424 Z (Pkg (gT hg421) hg424 Z (Pkg (gT hg420) hg421 Z (Pk hg420 Z (S Z (WO.nil ?_)))))
      obtain rfl := Oi h418
      exact cutN (Lr [0, 1])
   ·
    refine TC.draw 35 0 [172, 173, 174, 175, 176, 177, 178, 179, 180, 181, 182, 183, 184, 185, 186, 187, 188, 189, 190, 191, 192, 193, 194, 195, 196, 197, 198, 199, 200, 201, 202, 203, 204, 205, 206] [0, 0, 0, 0, 0, 0, 0, 0, 0, 0, 0, 0, 0, 0, 0, 0, 0, 0, 0, 0, 0, 0, 0, 0, 0, 0, 0, 0, 0, 0, 0, 0, 0, 0, 0] [false, false, false, false, false, false, false, false, false, false, false, false, false, false, false, false, false, false, false, false, false, false, false, false, false, false, false, false, false, false, false, false, false, false, false] [.rsl 8 (List.map Starter.c a2), .int .i64 s405, .rp [.int .i64 x419.Bib, .int .i64 x419.Distance, .int .i64 x419.Wave, .int .i64 x419.Slot, .int .i64 x419.Age, .int .i64 x419.Chip, .int .i64 x419.Team, .int .i64 x419.Lot], .rp [.int .i64 x419.Distance, .int .i64 x419.Wave, .int .i64 x419.Slot, .int .i64 x419.Age, .int .i64 x419.Chip, .int .i64 x419.Team, .int .i64 x419.Lot], .int .i64 x419.Distance, .int .i64 a3, .bool (x419.Distance == a3), .bool (x419.Distance == a3), .tup [], .tup [], .tup [], .tup [], .tup [], .tup [], .tup [], .tup [], .tup [], .tup [], .tup [], .tup [], .tup [], .tup [], .tup [], .tup [], .tup [], .tup [], .tup [], .tup [], .tup [], .tup [], .tup [], .tup [], .tup [], .tup [], .tup []] [[.cells 33 (Course.c a1), .row 3 1 (List.map (encI .i64) r12.1)]] ([.cells 33 (Course.c a1), .row 3 1 (List.map (encI .i64) r12.1)]) draws Z Z Z Z Z Z Z Z ?_ ?_
    ·
     refine Ob.cons ?_ (Ob.cons ?_ (Ob.cons ?_ (Ob.cons ?_ (Ob.cons ?_ (Ob.cons ?_ (Ob.cons ?_ (Ob.cons ?_ (Ob.cons ?_ (Ob.cons ?_ (Ob.cons ?_ (Ob.cons ?_ (Ob.cons ?_ (Ob.cons ?_ (Ob.cons ?_ (Ob.cons ?_ (Ob.cons ?_ (Ob.cons ?_ (Ob.cons ?_ (Ob.cons ?_ (Ob.cons ?_ (Ob.cons ?_ (Ob.cons ?_ (Ob.cons ?_ (Ob.cons ?_ (Ob.cons ?_ (Ob.cons ?_ (Ob.cons ?_ (Ob.cons ?_ (Ob.cons ?_ (Ob.cons ?_ (Ob.cons ?_ (Ob.cons ?_ (Ob.cons ?_ (Ob.cons ?_ (Ob.nil)))))))))))))))))))))))))))))))))))
     ·
       refine OB [(1, _)] 172 Z Z Z (Sb.old Z Z Sb.nil) ?_
       exact S Z Wp
     ·
       refine OB [(16, _)] 173 Z Z Z (Sb.old Z Z Sb.nil) ?_
       exact S Z Wp
     ·
       refine OB [(172, _), (173, _)] 174 Z Z Z (Sb.dep 0 Z Z Z (Sb.dep 1 Z Z Z Sb.nil)) ?_
       exact Ix hx419 runUnderlying34 sizeOf42 Z Wp
     ·
       refine OB [(174, _)] 175 Z Z Z (Sb.dep 2 Z Z Z Sb.nil) ?_
       exact Fr fa_42_1 Z Wp
     ·
       refine OB [(175, _)] 176 Z Z Z (Sb.dep 3 Z Z Z Sb.nil) ?_
       exact Ld isAgg3 Z Wp
     ·
       refine OB [(2, _)] 177 Z Z Z (Sb.old Z Z Sb.nil) ?_
       exact S Z Wp
     ·
       refine OB [(176, _), (177, _)] 178 Z Z Z (Sb.dep 4 Z Z Z (Sb.dep 5 Z Z Z Sb.nil)) ?_
       exact S Z Wp
     ·
       refine OB [(178, _)] 179 Z Z Z (Sb.dep 6 Z Z Z Sb.nil) ?_
       exact S Z Wp
     ·
       refine OB [(3, _), (179, _)] 180 Z Z Z (Sb.old Z Z (Sb.dep 7 Z Z Z Sb.nil)) ?_
       exact K (gF hg420) Z Wp
     ·
       refine OB [(179, _), (180, _)] 181 Z Z Z (Sb.dep 7 Z Z Z (Sb.dep 8 Z Z Z Sb.nil)) ?_
       exact K (gF hg420) Z Wp
     ·
       refine OB [(179, _), (181, _)] 182 Z Z Z (Sb.dep 7 Z Z Z (Sb.dep 9 Z Z Z Sb.nil)) ?_
       exact K (gF hg420) Z Wp
     ·
       refine OB [(4, _), (182, _)] 183 Z Z Z (Sb.old Z Z (Sb.dep 10 Z Z Z Sb.nil)) ?_
       exact K gU Z Wp
     ·
       refine OB [(182, _), (183, _)] 184 Z Z Z (Sb.dep 10 Z Z Z (Sb.dep 11 Z Z Z Sb.nil)) ?_
       exact K gU Z Wp
     ·
       refine OB [(3, _), (182, _)] 185 Z Z Z (Sb.old Z Z (Sb.dep 10 Z Z Z Sb.nil)) ?_
       exact K gU Z Wp
     ·
       refine OB [(182, _), (184, _), (185, _)] 186 Z Z Z (Sb.dep 10 Z Z Z (Sb.dep 12 Z Z Z (Sb.dep 13 Z Z Z Sb.nil))) ?_
       exact K gU Z Wp
     ·
       refine OB [(182, _), (186, _)] 187 Z Z Z (Sb.dep 10 Z Z Z (Sb.dep 14 Z Z Z Sb.nil)) ?_
       exact K gU Z Wp
     ·
       refine OB [(182, _), (187, _)] 188 Z Z Z (Sb.dep 10 Z Z Z (Sb.dep 15 Z Z Z Sb.nil)) ?_
       exact K gU Z Wp
     ·
       refine OB [(1, _), (182, _)] 189 Z Z Z (Sb.old Z Z (Sb.dep 10 Z Z Z Sb.nil)) ?_
       exact K gU Z Wp
     ·
       refine OB [(16, _), (182, _)] 190 Z Z Z (Sb.old Z Z (Sb.dep 10 Z Z Z Sb.nil)) ?_
       exact K gU Z Wp
     ·
       refine OB [(182, _), (189, _), (190, _)] 191 Z Z Z (Sb.dep 10 Z Z Z (Sb.dep 17 Z Z Z (Sb.dep 18 Z Z Z Sb.nil))) ?_
       exact K gU Z Wp
     ·
       refine OB [(182, _), (191, _)] 192 Z Z Z (Sb.dep 10 Z Z Z (Sb.dep 19 Z Z Z Sb.nil)) ?_
       exact K gU Z Wp
     ·
       refine OB [(182, _), (192, _)] 193 Z Z Z (Sb.dep 10 Z Z Z (Sb.dep 20 Z Z Z Sb.nil)) ?_
       exact K gU Z Wp
     ·
       refine OB [(182, _), (188, _), (193, _)] 194 Z Z Z (Sb.dep 10 Z Z Z (Sb.dep 16 Z Z Z (Sb.dep 21 Z Z Z Sb.nil))) ?_
       exact K gU Z Wp
     ·
       refine OB [(182, _), (194, _)] 195 Z Z Z (Sb.dep 10 Z Z Z (Sb.dep 22 Z Z Z Sb.nil)) ?_
       exact K gU Z Wp
     ·
       refine OB [(1, _), (195, _)] 196 Z Z Z (Sb.old Z Z (Sb.dep 23 Z Z Z Sb.nil)) ?_
       exact K gU Z Wp
     ·
       refine OB [(16, _), (195, _)] 197 Z Z Z (Sb.old Z Z (Sb.dep 23 Z Z Z Sb.nil)) ?_
       exact K gU Z Wp
     ·
       refine OB [(195, _), (196, _), (197, _)] 198 Z Z Z (Sb.dep 23 Z Z Z (Sb.dep 24 Z Z Z (Sb.dep 25 Z Z Z Sb.nil))) ?_
       exact K gU Z Wp
     ·
       refine OB [(195, _), (198, _)] 199 Z Z Z (Sb.dep 23 Z Z Z (Sb.dep 26 Z Z Z Sb.nil)) ?_
       exact K gU Z Wp
     ·
       refine OB [(195, _), (199, _)] 200 Z Z Z (Sb.dep 23 Z Z Z (Sb.dep 27 Z Z Z Sb.nil)) ?_
       exact K gU Z Wp
     ·
       refine OB [(4, _), (195, _)] 201 Z Z Z (Sb.old Z Z (Sb.dep 23 Z Z Z Sb.nil)) ?_
       exact K gU Z Wp
     ·
       refine OB [(195, _), (201, _)] 202 Z Z Z (Sb.dep 23 Z Z Z (Sb.dep 29 Z Z Z Sb.nil)) ?_
       exact K gU Z Wp
     ·
       refine OB [(3, _), (195, _)] 203 Z Z Z (Sb.old Z Z (Sb.dep 23 Z Z Z Sb.nil)) ?_
       exact K gU Z Wp
     ·
       refine OB [(195, _), (202, _), (203, _)] 204 Z Z Z (Sb.dep 23 Z Z Z (Sb.dep 30 Z Z Z (Sb.dep 31 Z Z Z Sb.nil))) ?_
       exact K gU Z Wp
     ·
       refine OB [(195, _), (204, _)] 205 Z Z Z (Sb.dep 23 Z Z Z (Sb.dep 32 Z Z Z Sb.nil)) ?_
       exact K gU Z Wp
     ·
       refine OB [(195, _), (205, _)] 206 Z Z Z (Sb.dep 23 Z Z Z (Sb.dep 33 Z Z Z Sb.nil)) ?_
       exact K gU Z Wp
    refine KU Z (KU Z (KF hg420 Z (Pk hg420 Z (S Z (WO.nil ?_)))))
    obtain rfl := Oi h418
    exact cutN (Lr [0, 1])
  refine seqN (TC.le hle (TC.seq (Bd h407 fun b430 h431 h407 => ?_)))
  refine TC.cut ([(1, .rsl 8 (List.map Starter.c a2)), (2, .int .i64 a3), (3, .int .i64 a4), (4, .ptr 0 0), (9, .osl 1 0 r12.1.length 1), (16, .int .i64 s405), (221, .bool b430)]) ([.cells 33 (Course.c a1), .row 3 1 (List.map (encI .i64) r12.1)]) ?_ (fun env H hle => ?_)
  ·
   refine TC.region (S Z (S Z (If h431 (fun hg432 h431 => ?_) (fun hg432 h431 => ?_))))
   ·
    refine Sg (gT hg432) Z (Sg (gT hg432) Z (Sg (gT hg432) Z (Bd h431 fun x433 hx433 h431 => ?_)))
    refine vX (.rp [.int .i64 x433.Bib, .int .i64 x433.Distance, .int .i64 x433.Wave, .int .i64 x433.Slot, .int .i64 x433.Age, .int .i64 x433.Chip, .int .i64 x433.Team, .int .i64 x433.Lot]) (OpV.ixM (e := Starter.c) (l := a2) (v := x433) hx433 runUnderlying34 sizeOf42) ?_ (gT hg432)
    refine Frg (gT hg432) fa_42_0 Z (Ldg (gT hg432) isAgg3 Z (Bd h431 fun r434 hr434 h431 => ?_))
    refine WO.callB (OpC.fn call20 rfl rfl rfl) (LookL.cons rfl (.inr ⟨_, _, _, _, _, rfl, rfl, List.length_map .., rfl⟩) (LookL.cons rfl (.inl ⟨rfl, rfl⟩) LookL.nil)) (k_q _ _ _ _ hr434) (by rintro _ _ ⟨rfl, rfl⟩; rfl) ?_ (gT hg432)
    rintro _ _ ⟨rfl, rfl⟩
    refine aV (.bool r434) [_, _] Z Z ?_
    refine Sg (gT hg432) Z (Pk hg432 Z (WO.nil ?_))
    obtain rfl := Oi h431
    exact cutN (Lr [0, 1])
   ·
    refine KF hg432 Z (KF hg432 Z (KF hg432 Z (KF hg432 Z (KF hg432 Z (KF hg432 Z (KF hg432 Z (KF hg432 Z (Pk hg432 Z (WO.nil ?_)))))))))
    obtain rfl := Oi h431
    exact cutN (Lr [0, 1])
  refine seqN (TC.le hle (Cn Z h407 (fun hc435 h407 => ?_) (fun hc435 h407 => ?_)))
  ·
   refine Rg (S Z (Nx (TC.ret (bloR (seqR (loopR h407 ?_))))))
   obtain rfl := hb404 _ (Oi h407).symm
   refine bloR (cutER (seqR ?_))
   obtain rfl := Oi h
   refine ⟨[(8, _)], _, _, ?_, ResOK.one Z Z, Z, Z⟩
   exact Lr []
  exact TC.skip (bloN (seqN (TC.region (S Z (S Z (S Z (WO.nil (loopN h407 (Lr [0, 1])))))))))
 subst hbe
 refine seqN (TC.le hle (Rg (S Z (Nx (TC.ret ?_)))))
 obtain rfl := Oi h
 refine ⟨[(8, _)], _, _, ?_, ResOK.one Z Z, Z, Z⟩
 exact Lr []
end Go.Sw
