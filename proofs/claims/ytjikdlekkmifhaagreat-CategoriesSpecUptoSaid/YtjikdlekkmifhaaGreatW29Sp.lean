/- What the functions compute that CategoriesSpec reaches, and that their calls refine it (part 5 of 5). -/
import Derived.Test.YtjikdlekkmifhaaGreatW29Sp4
set_option linter.unusedVariables false
set_option linter.unusedSimpArgs false
set_option maxRecDepth 100000
namespace Go.Sw
open Go.Proofs Tryz
def F_fn (n : Nat) (a2 : List Starter) (s185 : (List Int) × Int) (s279 : Int) : Option (Ctl Int Int) :=
  ((bif decide (s279 < (s185.1.length : Int)) then (idx s185.1 s279).bind fun x288 => (idx a2 s185.2).bind fun x289 => some (decide (x288 < x289.Bib)) else some false) : Option Bool).bind fun b285 => (bif b285 then some (.cont (IntKind.i64.wrap (s279 + 1))) else some (.done s279))
def F_gu (n : Nat) (a1 : Course) (a2 : List Starter) (a3 : Int) (a4 : Int) (s185 : (List Int) × Int) : Option (Ctl ((List Int) × Int) (List Int)) :=
  (bif decide (s185.2 < (a2.length : Int)) then (((idx a2 s185.2).bind fun x251 => (F_ad n a1 x251 a3 a4).bind fun r252 => (bif (!r252) then some true else (idx a2 s185.2).bind fun x254 => (F_ah n s185.1 x254.Bib).bind fun r255 => some r255) : Option Bool).bind fun b249 => (bif b249 then some s185.1 else (iter (F_fn n a2 s185) n 0 : Option Int).bind fun b276 => (slc s185.1 b276 (s185.1.length : Int)).bind fun x291 => (app ([] : List Int) x291).bind fun l292 => (slc s185.1 0 b276).bind fun x293 => (idx a2 s185.2).bind fun x294 => (app x293 [x294.Bib]).bind fun l295 => (app l295 l292).bind fun l296 => some l296) : Option (List Int)).bind fun b242 => some (.cont (b242, IntKind.i64.wrap (s185.2 + 1))) else some (.done s185.1))
def F_bs (n : Nat) (a1 : Course) (a2 : List Starter) (a3 : Int) (a4 : Int) : Option ((List Int) × Int) :=
  (F_ce n a1).bind fun r1 => (bif (r1 != 0) then some ([], r1) else ((bif decide (a3 < 0) then some true else some (decide ((a1.Distances.length : Int) ≤ a3))) : Option Bool).bind fun b4 => (bif b4 then some ([], 90) else ((bif decide (a4 < (-1)) then some true else some (decide ((a1.Categories.length : Int) ≤ a4))) : Option Bool).bind fun b9 => (bif b9 then some ([], 290) else (iter (F_gu n a1 a2 a3 a4) n ([], 0) : Option (List Int)).bind fun b182 => some (b182, 0))))
theorem k_bs (n : Nat) (a1 : Course) (a2 : List Starter) (a3 : Int) (a4 : Int) (r : (List Int) × Int) (h : F_bs n a1 a2 a3 a4 = some r) :
    C prog 17 [.agg (Course.c a1), .rsl 8 (List.map Starter.c a2), .int .i64 a3, .int .i64 a4] [] (fun a H => a = .tup [.osl 0 0 r.1.length 1, .int .i64 r.2] ∧ H = [.row 3 1 (List.map (encI .i64) r.1)]) := by
 refine C.of_body func17 Z Z Z ?_
 refine Rg ?_
 refine vH (OpH.box Z Z Z Z Z) ?_
 refine aV (.ptr 0 0) [.cells 33 (Course.c a1)] Z Z ?_
 refine S Z (S Z (Nx (Rg ?_)))
 refine vX (.agg (Course.c a1)) (OpV.loadA Z isAgg33 sizeOf33 Z (Pts.cells Z Z) Z Z) ?_
 refine Bd h fun r1 hr1 h => ?_
 refine WO.callD [] (OpC.fn call21 Z Z Z) (k_ce _ _ _ hr1) ?_
 rintro _ _ ⟨rfl, rfl⟩
 refine aV (.int .i64 r1) [_] Z Z ?_
 refine S Z (Nx (TC.seq (Rg (S Z (S Z (Nx (Cn Z h (fun hc2 h => ?_) (fun hc2 h => ?_))))))))
 ·
  refine Rg (S Z (S Z (S Z (Nx (RtR ?_)))))
  obtain rfl := Oi h
  refine ⟨[(8, _), (9, _)], _, _, ?_, ResOK.two Z Z Z, Z, Z⟩
  refine Le.trans (Le.phantom (s := 8) (k := 1) (t := 3) (Nat.le_of_ble_eq_true Z) Z) ?_
  exact Lr [1]
 refine SkN (TC.seq (TC.seq (Bd h fun b4 h5 h => ?_)))
 refine TC.cut ([(1, .rsl 8 (List.map Starter.c a2)), (2, .int .i64 a3), (3, .int .i64 a4), (4, .ptr 0 0), (28, .bool b4)]) ([.cells 33 (Course.c a1)]) ?_ (fun env H hle => ?_)
 ·
  refine TC.region (S Z (S Z (S Z (If h5 (fun hg6 h5 => ?_) (fun hg6 h5 => ?_)))))
  ·
   refine KF hg6 Z (KF hg6 Z (KF hg6 Z (KF hg6 Z (KF hg6 Z (Pk hg6 Z (WO.nil ?_))))))
   obtain rfl := Oi h5
   exact cutN (Lr [0])
  ·
   refine Sg (gT hg6) Z (Fpg (gT hg6) fa_33_3 Z (Ldg (gT hg6) isAgg24 Z ?_))
   refine vX (.int .i64 (a1.Distances.length : Int)) (OpV.lenM (e := Distance.c) (l := a1.Distances) runUnderlying24) ?_ (gT hg6)
   refine Sg (gT hg6) Z (Pk hg6 Z (WO.nil ?_))
   obtain rfl := Oi h5
   exact cutN (Lr [0])
 refine seqN (TC.le hle (Cn Z h (fun hc7 h => ?_) (fun hc7 h => ?_)))
 ·
  refine Rg (S Z (S Z (Nx (RtR ?_))))
  obtain rfl := Oi h
  refine ⟨[(8, _), (9, _)], _, _, ?_, ResOK.two Z Z Z, Z, Z⟩
  refine Le.trans (Le.phantom (s := 8) (k := 1) (t := 3) (Nat.le_of_ble_eq_true Z) Z) ?_
  exact Lr [1]
 refine SkN (TC.seq (TC.seq (Bd h fun b9 h10 h => ?_)))
 refine TC.cut ([(1, .rsl 8 (List.map Starter.c a2)), (2, .int .i64 a3), (3, .int .i64 a4), (4, .ptr 0 0), (37, .bool b9)]) ([.cells 33 (Course.c a1)]) ?_ (fun env H hle => ?_)
 ·
  refine TC.region (S Z (S Z (S Z (If h10 (fun hg11 h10 => ?_) (fun hg11 h10 => ?_)))))
  ·
   refine KF hg11 Z (KF hg11 Z (KF hg11 Z (KF hg11 Z (KF hg11 Z (Pk hg11 Z (WO.nil ?_))))))
   obtain rfl := Oi h10
   exact cutN (Lr [0])
  ·
   refine Sg (gT hg11) Z (Fpg (gT hg11) fa_33_6 Z (Ldg (gT hg11) isAgg27 Z ?_))
   refine vX (.int .i64 (a1.Categories.length : Int)) (OpV.lenM (e := Category.c) (l := a1.Categories) runUnderlying27) ?_ (gT hg11)
   refine Sg (gT hg11) Z (Pk hg11 Z (WO.nil ?_))
   obtain rfl := Oi h10
   exact cutN (Lr [0])
 refine seqN (TC.le hle (Cn Z h (fun hc12 h => ?_) (fun hc12 h => ?_)))
 ·
  refine Rg (S Z (S Z (Nx (RtR ?_))))
  obtain rfl := Oi h
  refine ⟨[(8, _), (9, _)], _, _, ?_, ResOK.two Z Z Z, Z, Z⟩
  refine Le.trans (Le.phantom (s := 8) (k := 1) (t := 3) (Nat.le_of_ble_eq_true Z) Z) ?_
  exact Lr [1]
 refine SkN (Rg (S Z (Nx (TC.seq (Rg (S Z (Nx (Bd h fun b182 h183 h => ?_))))))))
 refine TC.cut ([(11, .osl 0 0 b182.length 1)]) ([.row 3 1 (List.map (encI .i64) b182)]) ?_ (fun env H hle => ?_)
 ·
  refine TC.block ?_
  refine TC.loop (E := fun s185 => [(1, .rsl 8 (List.map Starter.c a2)), (2, .int .i64 a3), (3, .int .i64 a4), (4, .ptr 0 0), (11, .osl 1 0 s185.1.length 1), (12, .int .i64 s185.2)]) (Hp := fun s185 => [.cells 33 (Course.c a1), .row 3 1 (List.map (encI .i64) s185.1)]) h183 ?_ ?_
  ·
   refine Le.trans (Le.phantom (s := 11) (k := 1) (t := 3) (Nat.le_of_ble_eq_true Z) Z) ?_
   exact Lr [0, 1]
  intro s185 d186 h187 hb184
  refine TC.seq (Rg (S Z (S Z (LnM runUnderlying34 Z (S Z (Nx (CnS Z h187 (fun hc188 h187 => ?_) (fun hc188 h187 => ?_))))))))
  ·
   refine ExX (loopX h187 ?_)
   obtain rfl := hb184 _ (Oi h187).symm
   exact bloE (cutN (Lr [1]))
  refine SkN (TC.seq (Bd h187 fun b242 h243 h187 => ?_))
  refine TC.cut ([(1, .rsl 8 (List.map Starter.c a2)), (2, .int .i64 a3), (3, .int .i64 a4), (4, .ptr 0 0), (11, .osl 1 0 b242.length 1), (12, .int .i64 s185.2)]) ([.cells 33 (Course.c a1), .row 3 1 (List.map (encI .i64) b242)]) ?_ (fun env H hle => ?_)
  ·
   refine TC.block (TC.seq (TC.seq (Bd h243 fun b249 h250 h243 => ?_)))
   refine TC.cut ([(1, .rsl 8 (List.map Starter.c a2)), (2, .int .i64 a3), (3, .int .i64 a4), (4, .ptr 0 0), (11, .osl 1 0 s185.1.length 1), (12, .int .i64 s185.2), (61, .bool b249)]) ([.cells 33 (Course.c a1), .row 3 1 (List.map (encI .i64) s185.1)]) ?_ (fun env H hle => ?_)
   ·
    obtain ⟨x251, hx251, h250⟩ := bnd h250
    obtain ⟨r252, hr252, h250⟩ := bnd h250
    refine If h250 (fun hg253 h250 => ?_) (fun hg253 h250 => ?_)
    ·
     refine TC.draw 16 0 [44, 45, 46, 47, 48, 49, 50, 51, 52, 53, 54, 55, 56, 57, 58, 59] [0, 0, 0, 0, 0, 0, 0, 0, 0, 0, 0, 0, 0, 0, 0, 0] [false, false, false, false, false, false, false, false, false, false, false, false, false, false, false, false] [.agg (Course.c a1), .rsl 8 (List.map Starter.c a2), .int .i64 s185.2, .rp [.int .i64 x251.Bib, .int .i64 x251.Distance, .int .i64 x251.Wave, .int .i64 x251.Slot, .int .i64 x251.Age, .int .i64 x251.Chip, .int .i64 x251.Team, .int .i64 x251.Lot], .agg (Starter.c x251), .int .i64 a3, .int .i64 a4, .bool r252, .bool (!r252), .bool (!r252), .tup [], .tup [], .tup [], .tup [], .tup [], .tup []] [[.cells 33 (Course.c a1), .row 3 1 (List.map (encI .i64) s185.1)]] ([.cells 33 (Course.c a1), .row 3 1 (List.map (encI .i64) s185.1)]) draws Z Z Z Z Z Z Z Z ?_ ?_
     ·
      refine Ob.cons ?_ (Ob.cons ?_ (Ob.cons ?_ (Ob.cons ?_ (Ob.cons ?_ (Ob.cons ?_ (Ob.cons ?_ (Ob.cons ?_ (Ob.cons ?_ (Ob.cons ?_ (Ob.cons ?_ (Ob.cons ?_ (Ob.cons ?_ (Ob.cons ?_ (Ob.cons ?_ (Ob.cons ?_ (Ob.nil))))))))))))))))
      ·
        refine OB [(4, _)] 44 Z Z Z (Sb.old Z Z Sb.nil) ?_
        refine vX (.agg (Course.c a1)) (OpV.loadA Z isAgg33 sizeOf33 Z (Pts.cells Z Z) Z Z) ?_
        exact WO.nil Post1.mk
      ·
        refine OB [(1, _)] 45 Z Z Z (Sb.old Z Z Sb.nil) ?_
        exact S Z Wp
      ·
        refine OB [(12, _)] 46 Z Z Z (Sb.old Z Z Sb.nil) ?_
        exact S Z Wp
      ·
        refine OB [(45, _), (46, _)] 47 Z Z Z (Sb.dep 1 Z Z Z (Sb.dep 2 Z Z Z Sb.nil)) ?_
        exact Ix hx251 runUnderlying34 sizeOf42 Z Wp
      ·
        refine OB [(47, _)] 48 Z Z Z (Sb.dep 3 Z Z Z Sb.nil) ?_
        refine vX (.agg (Starter.c x251)) (OpV.loadA Z isAgg42 sizeOf42 Z Pts.rp Z Z) ?_
        exact WO.nil Post1.mk
      ·
        refine OB [(2, _)] 49 Z Z Z (Sb.old Z Z Sb.nil) ?_
        exact S Z Wp
      ·
        refine OB [(3, _)] 50 Z Z Z (Sb.old Z Z Sb.nil) ?_
        exact S Z Wp
      ·
        refine OB [(44, _), (48, _), (49, _), (50, _)] 51 Z Z Z (Sb.dep 0 Z Z Z (Sb.dep 4 Z Z Z (Sb.dep 5 Z Z Z (Sb.dep 6 Z Z Z Sb.nil)))) ?_
        refine WO.callD [] (OpC.fn call32 Z Z Z) (k_ad _ _ _ _ _ _ hr252) ?_
        rintro _ _ ⟨rfl, rfl⟩
        refine aV (.bool r252) [_, _] Z Z ?_
        exact WO.nil Post1.mk
      ·
        refine OB [(51, _)] 52 Z Z Z (Sb.dep 7 Z Z Z Sb.nil) ?_
        exact S Z Wp
      ·
        refine OB [(52, _)] 53 Z Z Z (Sb.dep 8 Z Z Z Sb.nil) ?_
        exact S Z Wp
      ·
        refine OB [(11, _), (53, _)] 54 Z Z Z (Sb.old Z Z (Sb.dep 9 Z Z Z Sb.nil)) ?_
        exact K (gF hg253) Z Wp
      ·
        refine OB [(1, _), (53, _)] 55 Z Z Z (Sb.old Z Z (Sb.dep 9 Z Z Z Sb.nil)) ?_
        exact K (gF hg253) Z Wp
      ·
        refine OB [(12, _), (53, _)] 56 Z Z Z (Sb.old Z Z (Sb.dep 9 Z Z Z Sb.nil)) ?_
        exact K (gF hg253) Z Wp
      ·
        refine OB [(53, _), (55, _), (56, _)] 57 Z Z Z (Sb.dep 9 Z Z Z (Sb.dep 11 Z Z Z (Sb.dep 12 Z Z Z Sb.nil))) ?_
        exact K (gF hg253) Z Wp
      ·
        refine OB [(53, _), (57, _)] 58 Z Z Z (Sb.dep 9 Z Z Z (Sb.dep 13 Z Z Z Sb.nil)) ?_
        exact K (gF hg253) Z Wp
      ·
        refine OB [(53, _), (58, _)] 59 Z Z Z (Sb.dep 9 Z Z Z (Sb.dep 14 Z Z Z Sb.nil)) ?_
        exact K (gF hg253) Z Wp
     refine KF hg253 Z (Pk hg253 Z (WO.nil ?_))
     obtain rfl := Oi h250
     exact cutN (Lr [0, 1])
    ·
     obtain ⟨x254, hx254, h250⟩ := bnd h250
     refine TC.draw 16 0 [44, 45, 46, 47, 48, 49, 50, 51, 52, 53, 54, 55, 56, 57, 58, 59] [0, 0, 0, 0, 0, 0, 0, 0, 0, 0, 0, 0, 0, 0, 0, 0] [false, false, false, false, false, false, false, false, false, false, false, false, false, false, false, false] [.agg (Course.c a1), .rsl 8 (List.map Starter.c a2), .int .i64 s185.2, .rp [.int .i64 x251.Bib, .int .i64 x251.Distance, .int .i64 x251.Wave, .int .i64 x251.Slot, .int .i64 x251.Age, .int .i64 x251.Chip, .int .i64 x251.Team, .int .i64 x251.Lot], .agg (Starter.c x251), .int .i64 a3, .int .i64 a4, .bool r252, .bool (!r252), .bool (!r252), .osl 1 0 s185.1.length 1, .rsl 8 (List.map Starter.c a2), .int .i64 s185.2, .rp [.int .i64 x254.Bib, .int .i64 x254.Distance, .int .i64 x254.Wave, .int .i64 x254.Slot, .int .i64 x254.Age, .int .i64 x254.Chip, .int .i64 x254.Team, .int .i64 x254.Lot], .rp [.int .i64 x254.Bib, .int .i64 x254.Distance, .int .i64 x254.Wave, .int .i64 x254.Slot, .int .i64 x254.Age, .int .i64 x254.Chip, .int .i64 x254.Team, .int .i64 x254.Lot], .int .i64 x254.Bib] [[.cells 33 (Course.c a1), .row 3 1 (List.map (encI .i64) s185.1)]] ([.cells 33 (Course.c a1), .row 3 1 (List.map (encI .i64) s185.1)]) draws Z Z Z Z Z Z Z Z ?_ ?_
     ·
      refine Ob.cons ?_ (Ob.cons ?_ (Ob.cons ?_ (Ob.cons ?_ (Ob.cons ?_ (Ob.cons ?_ (Ob.cons ?_ (Ob.cons ?_ (Ob.cons ?_ (Ob.cons ?_ (Ob.cons ?_ (Ob.cons ?_ (Ob.cons ?_ (Ob.cons ?_ (Ob.cons ?_ (Ob.cons ?_ (Ob.nil))))))))))))))))
      ·
        refine OB [(4, _)] 44 Z Z Z (Sb.old Z Z Sb.nil) ?_
        refine vX (.agg (Course.c a1)) (OpV.loadA Z isAgg33 sizeOf33 Z (Pts.cells Z Z) Z Z) ?_
        exact WO.nil Post1.mk
      ·
        refine OB [(1, _)] 45 Z Z Z (Sb.old Z Z Sb.nil) ?_
        exact S Z Wp
      ·
        refine OB [(12, _)] 46 Z Z Z (Sb.old Z Z Sb.nil) ?_
        exact S Z Wp
      ·
        refine OB [(45, _), (46, _)] 47 Z Z Z (Sb.dep 1 Z Z Z (Sb.dep 2 Z Z Z Sb.nil)) ?_
        exact Ix hx251 runUnderlying34 sizeOf42 Z Wp
      ·
        refine OB [(47, _)] 48 Z Z Z (Sb.dep 3 Z Z Z Sb.nil) ?_
        refine vX (.agg (Starter.c x251)) (OpV.loadA Z isAgg42 sizeOf42 Z Pts.rp Z Z) ?_
        exact WO.nil Post1.mk
      ·
        refine OB [(2, _)] 49 Z Z Z (Sb.old Z Z Sb.nil) ?_
        exact S Z Wp
      ·
        refine OB [(3, _)] 50 Z Z Z (Sb.old Z Z Sb.nil) ?_
        exact S Z Wp
      ·
        refine OB [(44, _), (48, _), (49, _), (50, _)] 51 Z Z Z (Sb.dep 0 Z Z Z (Sb.dep 4 Z Z Z (Sb.dep 5 Z Z Z (Sb.dep 6 Z Z Z Sb.nil)))) ?_
        refine WO.callD [] (OpC.fn call32 Z Z Z) (k_ad _ _ _ _ _ _ hr252) ?_
        rintro _ _ ⟨rfl, rfl⟩
        refine aV (.bool r252) [_, _] Z Z ?_
        exact WO.nil Post1.mk
      ·
        refine OB [(51, _)] 52 Z Z Z (Sb.dep 7 Z Z Z Sb.nil) ?_
        exact S Z Wp
      ·
        refine OB [(52, _)] 53 Z Z Z (Sb.dep 8 Z Z Z Sb.nil) ?_
        exact S Z Wp
      ·
        refine OB [(11, _), (53, _)] 54 Z Z Z (Sb.old Z Z (Sb.dep 9 Z Z Z Sb.nil)) ?_
        exact Sg (gT hg253) Z Wp
      ·
        refine OB [(1, _), (53, _)] 55 Z Z Z (Sb.old Z Z (Sb.dep 9 Z Z Z Sb.nil)) ?_
        exact Sg (gT hg253) Z Wp
      ·
        refine OB [(12, _), (53, _)] 56 Z Z Z (Sb.old Z Z (Sb.dep 9 Z Z Z Sb.nil)) ?_
        exact Sg (gT hg253) Z Wp
      ·
        refine OB [(53, _), (55, _), (56, _)] 57 Z Z Z (Sb.dep 9 Z Z Z (Sb.dep 11 Z Z Z (Sb.dep 12 Z Z Z Sb.nil))) ?_
        refine vX (.rp [.int .i64 x254.Bib, .int .i64 x254.Distance, .int .i64 x254.Wave, .int .i64 x254.Slot, .int .i64 x254.Age, .int .i64 x254.Chip, .int .i64 x254.Team, .int .i64 x254.Lot]) (OpV.ixM (e := Starter.c) (l := a2) (v := x254) hx254 runUnderlying34 sizeOf42) ?_ (gT hg253)
        exact WO.nil Post1.mk
      ·
        refine OB [(53, _), (57, _)] 58 Z Z Z (Sb.dep 9 Z Z Z (Sb.dep 13 Z Z Z Sb.nil)) ?_
        exact Frg (gT hg253) fa_42_0 Z Wp
      ·
        refine OB [(53, _), (58, _)] 59 Z Z Z (Sb.dep 9 Z Z Z (Sb.dep 14 Z Z Z Sb.nil)) ?_
        exact Ldg (gT hg253) isAgg3 Z Wp
     refine Bd h250 fun r255 hr255 h250 => ?_
     refine WO.callB (OpC.fn call20 rfl rfl rfl) (LookL.cons rfl (.inr ⟨_, _, _, _, _, rfl, rfl, List.length_map .., rfl⟩) (LookL.cons rfl (.inl ⟨rfl, rfl⟩) LookL.nil)) (k_ah _ _ _ _ hr255) (by rintro _ _ ⟨rfl, rfl⟩; rfl) ?_ (gT hg253)
     rintro _ _ ⟨rfl, rfl⟩
     refine aV (.bool r255) [_, _] Z Z ?_
     refine Pk hg253 Z (WO.nil ?_)
     obtain rfl := Oi h250
     exact cutN (Lr [0, 1])
   refine seqN (TC.le hle (Cn Z h243 (fun hc256 h243 => ?_) (fun hc256 h243 => ?_)))
   ·
    refine ExX (bloE ?_)
    obtain rfl := Oi h243
    exact cutN (Lr [0, 1])
   refine SkN (Rg (S Z (Nx (TC.seq (Bd h243 fun b276 h277 h243 => ?_)))))
   refine TC.cut ([(1, .rsl 8 (List.map Starter.c a2)), (2, .int .i64 a3), (3, .int .i64 a4), (4, .ptr 0 0), (11, .osl 1 0 s185.1.length 1), (12, .int .i64 s185.2), (13, .int .i64 b276)]) ([.cells 33 (Course.c a1), .row 3 1 (List.map (encI .i64) s185.1)]) ?_ (fun env H hle => ?_)
   ·
    refine TC.block ?_
    refine TC.loop (E := fun s279 => [(1, .rsl 8 (List.map Starter.c a2)), (2, .int .i64 a3), (3, .int .i64 a4), (4, .ptr 0 0), (11, .osl 1 0 s185.1.length 1), (12, .int .i64 s185.2), (13, .int .i64 s279)]) (Hp := fun s279 => [.cells 33 (Course.c a1), .row 3 1 (List.map (encI .i64) s185.1)]) h277 ?_ ?_
    ·
     exact Lr [0, 1]
    intro s279 d280 h281 hb278
    refine TC.seq (TC.seq (Bd h281 fun b285 h286 h281 => ?_))
    refine TC.cut ([(1, .rsl 8 (List.map Starter.c a2)), (2, .int .i64 a3), (3, .int .i64 a4), (4, .ptr 0 0), (11, .osl 1 0 s185.1.length 1), (12, .int .i64 s185.2), (13, .int .i64 s279), (77, .bool b285)]) ([.cells 33 (Course.c a1), .row 3 1 (List.map (encI .i64) s185.1)]) ?_ (fun env H hle => ?_)
    ·
     refine If h286 (fun hg287 h286 => ?_) (fun hg287 h286 => ?_)
     ·
      obtain ⟨x288, hx288, h286⟩ := bnd h286
      obtain ⟨x289, hx289, h286⟩ := bnd h286
      refine TC.draw 14 0 [62, 63, 64, 65, 66, 67, 68, 69, 70, 71, 72, 73, 74, 75] [0, 0, 0, 0, 0, 0, 0, 0, 0, 0, 0, 0, 0, 0] [false, false, false, false, false, false, false, false, false, false, false, false, false, false] [.int .i64 s279, .osl 1 0 s185.1.length 1, .int .i64 (s185.1.length : Int), .bool (decide (s279 < (s185.1.length : Int))), .bool (decide (s279 < (s185.1.length : Int))), .osl 1 0 s185.1.length 1, .int .i64 s279, .ptr 1 (Int.toNat s279 * 1), .int .i64 x288, .rsl 8 (List.map Starter.c a2), .int .i64 s185.2, .rp [.int .i64 x289.Bib, .int .i64 x289.Distance, .int .i64 x289.Wave, .int .i64 x289.Slot, .int .i64 x289.Age, .int .i64 x289.Chip, .int .i64 x289.Team, .int .i64 x289.Lot], .rp [.int .i64 x289.Bib, .int .i64 x289.Distance, .int .i64 x289.Wave, .int .i64 x289.Slot, .int .i64 x289.Age, .int .i64 x289.Chip, .int .i64 x289.Team, .int .i64 x289.Lot], .int .i64 x289.Bib] [[.cells 33 (Course.c a1), .row 3 1 (List.map (encI .i64) s185.1)]] ([.cells 33 (Course.c a1), .row 3 1 (List.map (encI .i64) s185.1)]) draws Z Z Z Z Z Z Z Z ?_ ?_
      ·
       refine Ob.cons ?_ (Ob.cons ?_ (Ob.cons ?_ (Ob.cons ?_ (Ob.cons ?_ (Ob.cons ?_ (Ob.cons ?_ (Ob.cons ?_ (Ob.cons ?_ (Ob.cons ?_ (Ob.cons ?_ (Ob.cons ?_ (Ob.cons ?_ (Ob.cons ?_ (Ob.nil))))))))))))))
       ·
         refine OB [(13, _)] 62 Z Z Z (Sb.old Z Z Sb.nil) ?_
         exact S Z Wp
       ·
         refine OB [(11, _)] 63 Z Z Z (Sb.old Z Z Sb.nil) ?_
         exact S Z Wp
       ·
         refine OB [(63, _)] 64 Z Z Z (Sb.dep 1 Z Z Z Sb.nil) ?_
         exact LnO runUnderlying39 Z Wp
       ·
         refine OB [(62, _), (64, _)] 65 Z Z Z (Sb.dep 0 Z Z Z (Sb.dep 2 Z Z Z Sb.nil)) ?_
         exact S Z Wp
       ·
         refine OB [(65, _)] 66 Z Z Z (Sb.dep 3 Z Z Z Sb.nil) ?_
         exact S Z Wp
       ·
         refine OB [(11, _), (66, _)] 67 Z Z Z (Sb.old Z Z (Sb.dep 4 Z Z Z Sb.nil)) ?_
         exact Sg (gT hg287) Z Wp
       ·
         refine OB [(13, _), (66, _)] 68 Z Z Z (Sb.old Z Z (Sb.dep 4 Z Z Z Sb.nil)) ?_
         exact Sg (gT hg287) Z Wp
       ·
         refine OB [(66, _), (67, _), (68, _)] 69 Z Z Z (Sb.dep 4 Z Z Z (Sb.dep 5 Z Z Z (Sb.dep 6 Z Z Z Sb.nil))) ?_
         refine vX (.ptr 1 (Int.toNat s279 * 1)) (OpV.ixW hx288 Z runUnderlying39 sizeOf3) ?_ (gT hg287)
         exact WO.nil Post1.mk
       ·
         refine OB [(66, _), (69, _)] 70 Z Z Z (Sb.dep 4 Z Z Z (Sb.dep 7 Z Z Z Sb.nil)) ?_
         refine vX (.int .i64 x288) (OpV.load Z isAgg3 Z (Pts.ofRow0 hx288)) ?_ (gT hg287)
         exact WO.nil Post1.mk
       ·
         refine OB [(1, _), (66, _)] 71 Z Z Z (Sb.old Z Z (Sb.dep 4 Z Z Z Sb.nil)) ?_
         exact Sg (gT hg287) Z Wp
       ·
         refine OB [(12, _), (66, _)] 72 Z Z Z (Sb.old Z Z (Sb.dep 4 Z Z Z Sb.nil)) ?_
         exact Sg (gT hg287) Z Wp
       ·
         refine OB [(66, _), (71, _), (72, _)] 73 Z Z Z (Sb.dep 4 Z Z Z (Sb.dep 9 Z Z Z (Sb.dep 10 Z Z Z Sb.nil))) ?_
         refine vX (.rp [.int .i64 x289.Bib, .int .i64 x289.Distance, .int .i64 x289.Wave, .int .i64 x289.Slot, .int .i64 x289.Age, .int .i64 x289.Chip, .int .i64 x289.Team, .int .i64 x289.Lot]) (OpV.ixM (e := Starter.c) (l := a2) (v := x289) hx289 runUnderlying34 sizeOf42) ?_ (gT hg287)
         exact WO.nil Post1.mk
       ·
         refine OB [(66, _), (73, _)] 74 Z Z Z (Sb.dep 4 Z Z Z (Sb.dep 11 Z Z Z Sb.nil)) ?_
         exact Frg (gT hg287) fa_42_0 Z Wp
       ·
         refine OB [(66, _), (74, _)] 75 Z Z Z (Sb.dep 4 Z Z Z (Sb.dep 12 Z Z Z Sb.nil)) ?_
         exact Ldg (gT hg287) isAgg3 Z Wp
      refine Sg (gT hg287) Z (Pk hg287 Z (WO.nil ?_))
      obtain rfl := Oi h286
      exact cutN (Lr [0, 1])
     ·
      refine TC.draw 14 0 [62, 63, 64, 65, 66, 67, 68, 69, 70, 71, 72, 73, 74, 75] [0, 0, 0, 0, 0, 0, 0, 0, 0, 0, 0, 0, 0, 0] [false, false, false, false, false, false, false, false, false, false, false, false, false, false] [.int .i64 s279, .osl 1 0 s185.1.length 1, .int .i64 (s185.1.length : Int), .bool (decide (s279 < (s185.1.length : Int))), .bool (decide (s279 < (s185.1.length : Int))), .tup [], .tup [], .tup [], .tup [], .tup [], .tup [], .tup [], .tup [], .tup []] [[.cells 33 (Course.c a1), .row 3 1 (List.map (encI .i64) s185.1)]] ([.cells 33 (Course.c a1), .row 3 1 (List.map (encI .i64) s185.1)]) draws Z Z Z Z Z Z Z Z ?_ ?_
      ·
       refine Ob.cons ?_ (Ob.cons ?_ (Ob.cons ?_ (Ob.cons ?_ (Ob.cons ?_ (Ob.cons ?_ (Ob.cons ?_ (Ob.cons ?_ (Ob.cons ?_ (Ob.cons ?_ (Ob.cons ?_ (Ob.cons ?_ (Ob.cons ?_ (Ob.cons ?_ (Ob.nil))))))))))))))
       ·
         refine OB [(13, _)] 62 Z Z Z (Sb.old Z Z Sb.nil) ?_
         exact S Z Wp
       ·
         refine OB [(11, _)] 63 Z Z Z (Sb.old Z Z Sb.nil) ?_
         exact S Z Wp
       ·
         refine OB [(63, _)] 64 Z Z Z (Sb.dep 1 Z Z Z Sb.nil) ?_
         exact LnO runUnderlying39 Z Wp
       ·
         refine OB [(62, _), (64, _)] 65 Z Z Z (Sb.dep 0 Z Z Z (Sb.dep 2 Z Z Z Sb.nil)) ?_
         exact S Z Wp
       ·
         refine OB [(65, _)] 66 Z Z Z (Sb.dep 3 Z Z Z Sb.nil) ?_
         exact S Z Wp
       ·
         refine OB [(11, _), (66, _)] 67 Z Z Z (Sb.old Z Z (Sb.dep 4 Z Z Z Sb.nil)) ?_
         exact K (gF hg287) Z Wp
       ·
         refine OB [(13, _), (66, _)] 68 Z Z Z (Sb.old Z Z (Sb.dep 4 Z Z Z Sb.nil)) ?_
         exact K (gF hg287) Z Wp
       ·
         refine OB [(66, _), (67, _), (68, _)] 69 Z Z Z (Sb.dep 4 Z Z Z (Sb.dep 5 Z Z Z (Sb.dep 6 Z Z Z Sb.nil))) ?_
         exact K (gF hg287) Z Wp
       ·
         refine OB [(66, _), (69, _)] 70 Z Z Z (Sb.dep 4 Z Z Z (Sb.dep 7 Z Z Z Sb.nil)) ?_
         exact K (gF hg287) Z Wp
       ·
         refine OB [(1, _), (66, _)] 71 Z Z Z (Sb.old Z Z (Sb.dep 4 Z Z Z Sb.nil)) ?_
         exact K (gF hg287) Z Wp
       ·
         refine OB [(12, _), (66, _)] 72 Z Z Z (Sb.old Z Z (Sb.dep 4 Z Z Z Sb.nil)) ?_
         exact K (gF hg287) Z Wp
       ·
         refine OB [(66, _), (71, _), (72, _)] 73 Z Z Z (Sb.dep 4 Z Z Z (Sb.dep 9 Z Z Z (Sb.dep 10 Z Z Z Sb.nil))) ?_
         exact K (gF hg287) Z Wp
       ·
         refine OB [(66, _), (73, _)] 74 Z Z Z (Sb.dep 4 Z Z Z (Sb.dep 11 Z Z Z Sb.nil)) ?_
         exact K (gF hg287) Z Wp
       ·
         refine OB [(66, _), (74, _)] 75 Z Z Z (Sb.dep 4 Z Z Z (Sb.dep 12 Z Z Z Sb.nil)) ?_
         exact K (gF hg287) Z Wp
      refine KF hg287 Z (Pk hg287 Z (WO.nil ?_))
      obtain rfl := Oi h286
      exact cutN (Lr [0, 1])
    refine seqN (TC.le hle (CnS Z h281 (fun hc290 h281 => ?_) (fun hc290 h281 => ?_)))
    ·
     refine ExX (loopX h281 ?_)
     obtain rfl := hb278 _ (Oi h281).symm
     exact bloE (cutN (Lr [0, 1]))
    exact SkN (TC.block (TC.region (S Z (S Z (S Z (WO.nil (bloN (loopN h281 (Lr [0, 1])))))))))
   refine seqN (TC.le hle (Rg ?_))
   refine vH (OpH.lit (xs := []) (es := List.map (encI .i64) []) el_39 Z Z Z Z Z trivial Z Z) ?_
   refine aV (.osl 2 0 (([] : List Int).length) 1) [_, _, .row 3 1 (List.map (encI .i64) ([] : List Int))] Z Z ?_
   refine S Z (S Z (Bd h243 fun x291 hx291 h243 => ?_))
   refine vX (.osl 1 (0 + Int.toNat b276) (Int.toNat (s185.1.length : Int) - Int.toNat b276) 1) (OpV.cutO2 (l := s185.1) hx291 runUnderlying39 sizeOf3 (.inr ⟨_, Z, Z⟩) (.inl ⟨Z, Z⟩)) ?_
   refine Bd h243 fun l292 hl292 h243 => ?_
   refine vH (OpH.appO (e := (encI .i64)) hl292 el_39 runUnderlying39 (Src.oR (b := 1) hx291)) ?_
   refine aV (.osl 3 0 l292.length 1) [_, _, .dead, .row 3 1 (List.map (encI .i64) l292)] Z Z ?_
   refine S Z (Nx ?_)
   obtain ⟨x293, hx293, h243⟩ := bnd h243
   obtain ⟨x294, hx294, h243⟩ := bnd h243
   obtain ⟨l295, hl295, h243⟩ := bnd h243
   refine TC.draw 11 1 [85, 86, 87, 88, 89, 90, 91, 92, 93, 94, 95] [0, 0, 0, 0, 0, 0, 0, 0, 0, 0, 0] [false, false, false, false, false, false, false, false, false, true, false] [.osl 1 0 s185.1.length 1, .int .i64 b276, .osl 1 (0 + Int.toNat 0) (Int.toNat b276 - Int.toNat 0) 1, .rsl 8 (List.map Starter.c a2), .int .i64 s185.2, .rp [.int .i64 x294.Bib, .int .i64 x294.Distance, .int .i64 x294.Wave, .int .i64 x294.Slot, .int .i64 x294.Age, .int .i64 x294.Chip, .int .i64 x294.Team, .int .i64 x294.Lot], .rp [.int .i64 x294.Bib, .int .i64 x294.Distance, .int .i64 x294.Wave, .int .i64 x294.Slot, .int .i64 x294.Age, .int .i64 x294.Chip, .int .i64 x294.Team, .int .i64 x294.Lot], .int .i64 x294.Bib, .rsl 1 (List.map (encI .i64) [x294.Bib]), .osl 4 0 l295.length 1, .osl 3 0 l292.length 1] [[.cells 33 (Course.c a1), .row 3 1 (List.map (encI .i64) s185.1), .dead, .row 3 1 (List.map (encI .i64) l292)], [.cells 33 (Course.c a1), .dead, .dead, .row 3 1 (List.map (encI .i64) l292), .row 3 1 (List.map (encI .i64) l295)]] ([.cells 33 (Course.c a1), .dead, .dead, .row 3 1 (List.map (encI .i64) l292), .row 3 1 (List.map (encI .i64) l295)]) draws Z Z Z Z Z Z Z Z ?_ ?_
   ·
    refine Ob.cons ?_ (Ob.cons ?_ (Ob.cons ?_ (Ob.cons ?_ (Ob.cons ?_ (Ob.cons ?_ (Ob.cons ?_ (Ob.cons ?_ (Ob.cons ?_ (Ob.cons ?_ (Ob.cons ?_ (Ob.nil)))))))))))
    ·
     refine Ob.stC ?_ (Ob.stC ?_ (Ob.st0))
     ·
      refine OblAt.mk _ [(11, _)] 85 _ Z Z Z (Sb.old Z Z Sb.nil) ?_
      exact S Z Wp
     ·
      refine OblAt.mk _ [(11, _)] 85 _ Z Z Z (Sb.old Z Z Sb.nil) ?_
      exact S Z Wp
    ·
     refine Ob.stC ?_ (Ob.stC ?_ (Ob.st0))
     ·
      refine OblAt.mk _ [(13, _)] 86 _ Z Z Z (Sb.old Z Z Sb.nil) ?_
      exact S Z Wp
     ·
      refine OblAt.mk _ [(13, _)] 86 _ Z Z Z (Sb.old Z Z Sb.nil) ?_
      exact S Z Wp
    ·
     refine Ob.stC ?_ (Ob.stC ?_ (Ob.st0))
     ·
      refine OblAt.mk _ [(85, _), (86, _)] 87 _ Z Z Z (Sb.dep 0 Z Z Z (Sb.dep 1 Z Z Z Sb.nil)) ?_
      refine vX (.osl 1 (0 + Int.toNat 0) (Int.toNat b276 - Int.toNat 0) 1) (OpV.cutO2 (l := s185.1) hx293 runUnderlying39 sizeOf3 (.inl ⟨Z, Z⟩) (.inr ⟨_, Z, Z⟩)) ?_
      exact WO.nil Post1.mk
     ·
      refine OblAt.mk _ [(85, _), (86, _)] 87 _ Z Z Z (Sb.dep 0 Z Z Z (Sb.dep 1 Z Z Z Sb.nil)) ?_
      refine vX (.osl 1 (0 + Int.toNat 0) (Int.toNat b276 - Int.toNat 0) 1) (OpV.cutO2 (l := s185.1) hx293 runUnderlying39 sizeOf3 (.inl ⟨Z, Z⟩) (.inr ⟨_, Z, Z⟩)) ?_
      exact WO.nil Post1.mk
    ·
     refine Ob.stC ?_ (Ob.stC ?_ (Ob.st0))
     ·
      refine OblAt.mk _ [(1, _)] 88 _ Z Z Z (Sb.old Z Z Sb.nil) ?_
      exact S Z Wp
     ·
      refine OblAt.mk _ [(1, _)] 88 _ Z Z Z (Sb.old Z Z Sb.nil) ?_
      exact S Z Wp
    ·
     refine Ob.stC ?_ (Ob.stC ?_ (Ob.st0))
     ·
      refine OblAt.mk _ [(12, _)] 89 _ Z Z Z (Sb.old Z Z Sb.nil) ?_
      exact S Z Wp
     ·
      refine OblAt.mk _ [(12, _)] 89 _ Z Z Z (Sb.old Z Z Sb.nil) ?_
      exact S Z Wp
    ·
     refine Ob.stC ?_ (Ob.stC ?_ (Ob.st0))
     ·
      refine OblAt.mk _ [(88, _), (89, _)] 90 _ Z Z Z (Sb.dep 3 Z Z Z (Sb.dep 4 Z Z Z Sb.nil)) ?_
      exact Ix hx294 runUnderlying34 sizeOf42 Z Wp
     ·
      refine OblAt.mk _ [(88, _), (89, _)] 90 _ Z Z Z (Sb.dep 3 Z Z Z (Sb.dep 4 Z Z Z Sb.nil)) ?_
      exact Ix hx294 runUnderlying34 sizeOf42 Z Wp
    ·
     refine Ob.stC ?_ (Ob.stC ?_ (Ob.st0))
     ·
      refine OblAt.mk _ [(90, _)] 91 _ Z Z Z (Sb.dep 5 Z Z Z Sb.nil) ?_
      exact Fr fa_42_0 Z Wp
     ·
      refine OblAt.mk _ [(90, _)] 91 _ Z Z Z (Sb.dep 5 Z Z Z Sb.nil) ?_
      exact Fr fa_42_0 Z Wp
    ·
     refine Ob.stC ?_ (Ob.stC ?_ (Ob.st0))
     ·
      refine OblAt.mk _ [(91, _)] 92 _ Z Z Z (Sb.dep 6 Z Z Z Sb.nil) ?_
      exact Ld isAgg3 Z Wp
     ·
      refine OblAt.mk _ [(91, _)] 92 _ Z Z Z (Sb.dep 6 Z Z Z Sb.nil) ?_
      exact Ld isAgg3 Z Wp
    ·
     refine Ob.stC ?_ (Ob.stC ?_ (Ob.st0))
     ·
      refine OblAt.mk _ [(92, _)] 93 _ Z Z Z (Sb.dep 7 Z Z Z Sb.nil) ?_
      refine vH (OpH.litR (xs := [.tmp 92]) (es := List.map (encI .i64) [x294.Bib]) el_39 Z Z Z Z Z ⟨Z, trivial⟩ Z Z) ?_
      refine aV (.rsl 1 (List.map (encI .i64) [x294.Bib])) [_, _, _, _] Z Z ?_
      exact WO.nil Post1.mk
     ·
      refine OblAt.mk _ [(92, _)] 93 _ Z Z Z (Sb.dep 7 Z Z Z Sb.nil) ?_
      refine vH (OpH.litR (xs := [.tmp 92]) (es := List.map (encI .i64) [x294.Bib]) el_39 Z Z Z Z Z ⟨Z, trivial⟩ Z Z) ?_
      refine aV (.rsl 1 (List.map (encI .i64) [x294.Bib])) [_, _, _, _, _] Z Z ?_
      exact WO.nil Post1.mk
    ·
      refine OB [(87, _), (93, _)] 94 Z Z Z (Sb.dep 2 Z Z Z (Sb.dep 8 Z Z Z Sb.nil)) ?_
      refine vH (OpH.appR (e := (encI .i64)) hx293 hl295 el_39 runUnderlying39 Src.rM) ?_
      refine aV (.osl 4 0 l295.length 1) [_, .dead, _, _, .row 3 1 (List.map (encI .i64) l295)] Z Z ?_
      exact WO.nil Post1.mk
    ·
     refine Ob.stC ?_ (Ob.stC ?_ (Ob.st0))
     ·
      refine OblAt.mk _ [(14, _)] 95 _ Z Z Z (Sb.old Z Z Sb.nil) ?_
      exact S Z Wp
     ·
      refine OblAt.mk _ [(14, _)] 95 _ Z Z Z (Sb.old Z Z Sb.nil) ?_
      exact S Z Wp
   refine Bd h243 fun l296 hl296 h243 => ?_
   refine vH (OpH.appO (e := (encI .i64)) hl296 el_39 runUnderlying39 (Src.oM (i := 3))) ?_
   refine aV (.osl 5 0 l296.length 1) [_, _, _, _, .dead, .row 3 1 (List.map (encI .i64) l296)] Z Z ?_
   refine S Z (WO.nil (bloN ?_))
   obtain rfl := Oi h243
   exact cutN (Lr [0, 5])
  exact seqN (TC.le hle (TC.region (S Z (S Z (S Z (WO.nil (loopN h187 (Lr [0, 1]))))))))
 refine seqN (TC.le hle (Rg (S Z (S Z (S Z (Nx (TC.ret ?_)))))))
 obtain rfl := Oi h
 refine ⟨[(8, _), (9, _)], _, _, ?_, ResOK.two Z Z Z, Z, Z⟩
 exact Lr [0]
def F_ga (n : Nat) (a1 : Course) (a2 : List Starter) (s267 : (List Int) × (List Int) × Int) (s357 : (List Int) × (List Int) × Int) (s381 : Bool × Int) : Option (Ctl (Bool × Int) Bool) :=
  (bif decide (s381.2 < (a2.length : Int)) then ((bif s381.1 then some true else (idx a2 s381.2).bind fun x391 => (F_ad n a1 x391 s267.2.2 s357.2.2).bind fun r392 => some r392) : Option Bool).bind fun b388 => some (.cont (b388, IntKind.i64.wrap (s381.2 + 1))) else some (.done s381.1))
def F_gl (n : Nat) (a1 : Course) (a2 : List Starter) (s267 : (List Int) × (List Int) × Int) (s357 : (List Int) × (List Int) × Int) : Option (Ctl ((List Int) × (List Int) × Int) ((List Int) × (List Int))) :=
  (bif decide (s357.2.2 < (a1.Categories.length : Int)) then (iter (F_ga n a1 a2 s267 s357) n (false, 0) : Option Bool).bind fun b378 => ((bif b378 then (app s357.1 [s267.2.2]).bind fun l399 => (app s357.2.1 [s357.2.2]).bind fun l400 => some (l399, l400) else some (s357.1, s357.2.1)) : Option ((List Int) × (List Int))).bind fun b396 => some (.cont (b396.1, b396.2, IntKind.i64.wrap (s357.2.2 + 1))) else some (.done (s357.1, s357.2.1)))
def F_hl (n : Nat) (a1 : Course) (a2 : List Starter) (s267 : (List Int) × (List Int) × Int) : Option (Ctl ((List Int) × (List Int) × Int) ((List Int) × (List Int))) :=
  (bif decide (s267.2.2 < (a1.Distances.length : Int)) then (iter (F_gl n a1 a2 s267) n (s267.1, s267.2.1, (-1)) : Option ((List Int) × (List Int))).bind fun b354 => some (.cont (b354.1, b354.2, IntKind.i64.wrap (s267.2.2 + 1))) else some (.done (s267.1, s267.2.1)))
def F_ca (n : Nat) (a1 : Course) (a2 : List Starter) : Option ((List Int) × (List Int)) :=
  (iter (F_hl n a1 a2) n ([], [], 0) : Option ((List Int) × (List Int))).bind fun b264 => some (b264.1, b264.2)
theorem k_ca (n : Nat) (a1 : Course) (a2 : List Starter) (r : (List Int) × (List Int)) (h : F_ca n a1 a2 = some r) :
    C prog 19 [.agg (Course.c a1), .rsl 8 (List.map Starter.c a2)] [] (fun a H => a = .tup [.osl 0 0 r.1.length 1, .osl 1 0 r.2.length 1] ∧ H = [.row 3 1 (List.map (encI .i64) r.1), .row 3 1 (List.map (encI .i64) r.2)]) := by
 refine C.of_body func19 Z Z Z ?_
 refine Rg ?_
 refine vH (OpH.box Z Z Z Z Z) ?_
 refine aV (.ptr 0 0) [.cells 33 (Course.c a1)] Z Z ?_
 refine S Z (S Z (Nx (Rg (S Z (S Z (Nx (TC.seq (Rg (S Z (Nx (Bd h fun b264 h265 h => ?_)))))))))))
 refine TC.cut ([(6, .osl 0 0 b264.1.length 1), (7, .osl 1 0 b264.2.length 1)]) ([.row 3 1 (List.map (encI .i64) b264.1), .row 3 1 (List.map (encI .i64) b264.2)]) ?_ (fun env H hle => ?_)
 ·
  refine TC.block ?_
  refine TC.loop (E := fun s267 => [(1, .rsl 8 (List.map Starter.c a2)), (2, .ptr 0 0), (6, .osl 1 0 s267.1.length 1), (7, .osl 2 0 s267.2.1.length 1), (8, .int .i64 s267.2.2)]) (Hp := fun s267 => [.cells 33 (Course.c a1), .row 3 1 (List.map (encI .i64) s267.1), .row 3 1 (List.map (encI .i64) s267.2.1)]) h265 ?_ ?_
  ·
   refine Le.trans (Le.phantom (s := 6) (k := 1) (t := 3) (Nat.le_of_ble_eq_true Z) Z) ?_
   refine Le.trans (Le.phantom (s := 7) (k := 1) (t := 3) (Nat.le_of_ble_eq_true Z) Z) ?_
   exact Lr [0, 1, 2]
  intro s267 d268 h269 hb266
  refine TC.seq (Rg (S Z (Fp fa_33_3 Z (Ld isAgg24 Z (LnM runUnderlying24 Z (S Z (Nx (CnS Z h269 (fun hc270 h269 => ?_) (fun hc270 h269 => ?_)))))))))
  ·
   refine ExX (loopX h269 ?_)
   obtain rfl := hb266 _ (Oi h269).symm
   exact bloE (cutN (Lr [1, 2]))
  refine SkN (TC.seq (TC.block (Rg (S Z (Nx (Bd h269 fun b354 h355 h269 => ?_))))))
  refine TC.cut ([(1, .rsl 8 (List.map Starter.c a2)), (2, .ptr 0 0), (6, .osl 1 0 b354.1.length 1), (7, .osl 2 0 b354.2.length 1), (8, .int .i64 s267.2.2)]) ([.cells 33 (Course.c a1), .row 3 1 (List.map (encI .i64) b354.1), .row 3 1 (List.map (encI .i64) b354.2)]) ?_ (fun env H hle => ?_)
  ·
   refine TC.block ?_
   refine TC.loop (E := fun s357 => [(1, .rsl 8 (List.map Starter.c a2)), (2, .ptr 0 0), (6, .osl 1 0 s357.1.length 1), (7, .osl 2 0 s357.2.1.length 1), (8, .int .i64 s267.2.2), (9, .int .i64 s357.2.2)]) (Hp := fun s357 => [.cells 33 (Course.c a1), .row 3 1 (List.map (encI .i64) s357.1), .row 3 1 (List.map (encI .i64) s357.2.1)]) h355 ?_ ?_
   ·
    exact Lr [0, 1, 2]
   intro s357 d358 h359 hb356
   refine TC.seq (Rg (S Z (Fp fa_33_6 Z (Ld isAgg27 Z (LnM runUnderlying27 Z (S Z (Nx (CnS Z h359 (fun hc360 h359 => ?_) (fun hc360 h359 => ?_)))))))))
   ·
    refine ExX (loopX h359 ?_)
    obtain rfl := hb356 _ (Oi h359).symm
    exact bloE (cutN (Lr [0, 1, 2]))
   refine SkN (TC.seq (TC.block (Rg (S Z (Nx (TC.seq (Rg (S Z (Nx (Bd h359 fun b378 h379 h359 => ?_))))))))))
   refine TC.cut ([(1, .rsl 8 (List.map Starter.c a2)), (2, .ptr 0 0), (6, .osl 1 0 s357.1.length 1), (7, .osl 2 0 s357.2.1.length 1), (8, .int .i64 s267.2.2), (9, .int .i64 s357.2.2), (10, .bool b378)]) ([.cells 33 (Course.c a1), .row 3 1 (List.map (encI .i64) s357.1), .row 3 1 (List.map (encI .i64) s357.2.1)]) ?_ (fun env H hle => ?_)
   ·
    refine TC.block ?_
    refine TC.loop (E := fun s381 => [(1, .rsl 8 (List.map Starter.c a2)), (2, .ptr 0 0), (6, .osl 1 0 s357.1.length 1), (7, .osl 2 0 s357.2.1.length 1), (8, .int .i64 s267.2.2), (9, .int .i64 s357.2.2), (10, .bool s381.1), (11, .int .i64 s381.2)]) (Hp := fun s381 => [.cells 33 (Course.c a1), .row 3 1 (List.map (encI .i64) s357.1), .row 3 1 (List.map (encI .i64) s357.2.1)]) h379 ?_ ?_
    ·
     exact Lr [0, 1, 2]
    intro s381 d382 h383 hb380
    refine TC.seq (Rg (S Z (S Z (LnM runUnderlying34 Z (S Z (Nx (CnS Z h383 (fun hc384 h383 => ?_) (fun hc384 h383 => ?_))))))))
    ·
     refine ExX (loopX h383 ?_)
     obtain rfl := hb380 _ (Oi h383).symm
     exact bloE (cutN (Lr [0, 1, 2]))
    refine SkN (TC.seq (TC.block (Bd h383 fun b388 h389 h383 => ?_)))
    refine TC.cut ([(1, .rsl 8 (List.map Starter.c a2)), (2, .ptr 0 0), (6, .osl 1 0 s357.1.length 1), (7, .osl 2 0 s357.2.1.length 1), (8, .int .i64 s267.2.2), (9, .int .i64 s357.2.2), (10, .bool b388), (11, .int .i64 s381.2)]) ([.cells 33 (Course.c a1), .row 3 1 (List.map (encI .i64) s357.1), .row 3 1 (List.map (encI .i64) s357.2.1)]) ?_ (fun env H hle => ?_)
    ·
     refine If h389 (fun hg390 h389 => ?_) (fun hg390 h389 => ?_)
     ·
      refine TC.draw 9 0 [32, 33, 34, 35, 36, 37, 38, 39, 40] [0, 0, 0, 0, 0, 0, 0, 0, 0] [false, false, false, false, false, false, false, false, false] [.bool s381.1, .bool s381.1, .tup [], .tup [], .tup [], .tup [], .tup [], .tup [], .tup []] [[.cells 33 (Course.c a1), .row 3 1 (List.map (encI .i64) s357.1), .row 3 1 (List.map (encI .i64) s357.2.1)]] ([.cells 33 (Course.c a1), .row 3 1 (List.map (encI .i64) s357.1), .row 3 1 (List.map (encI .i64) s357.2.1)]) draws Z Z Z Z Z Z Z Z ?_ ?_
      ·
       refine Ob.cons ?_ (Ob.cons ?_ (Ob.cons ?_ (Ob.cons ?_ (Ob.cons ?_ (Ob.cons ?_ (Ob.cons ?_ (Ob.cons ?_ (Ob.cons ?_ (Ob.nil)))))))))
       ·
         refine OB [(10, _)] 32 Z Z Z (Sb.old Z Z Sb.nil) ?_
         exact S Z Wp
       ·
         refine OB [(32, _)] 33 Z Z Z (Sb.dep 0 Z Z Z Sb.nil) ?_
         exact S Z Wp
       ·
         refine OB [(2, _), (33, _)] 34 Z Z Z (Sb.old Z Z (Sb.dep 1 Z Z Z Sb.nil)) ?_
         exact K (gF hg390) Z Wp
       ·
         refine OB [(1, _), (33, _)] 35 Z Z Z (Sb.old Z Z (Sb.dep 1 Z Z Z Sb.nil)) ?_
         exact K (gF hg390) Z Wp
       ·
         refine OB [(11, _), (33, _)] 36 Z Z Z (Sb.old Z Z (Sb.dep 1 Z Z Z Sb.nil)) ?_
         exact K (gF hg390) Z Wp
       ·
         refine OB [(33, _), (35, _), (36, _)] 37 Z Z Z (Sb.dep 1 Z Z Z (Sb.dep 3 Z Z Z (Sb.dep 4 Z Z Z Sb.nil))) ?_
         exact K (gF hg390) Z Wp
       ·
         refine OB [(33, _), (37, _)] 38 Z Z Z (Sb.dep 1 Z Z Z (Sb.dep 5 Z Z Z Sb.nil)) ?_
         exact K (gF hg390) Z Wp
       ·
         refine OB [(8, _), (33, _)] 39 Z Z Z (Sb.old Z Z (Sb.dep 1 Z Z Z Sb.nil)) ?_
         exact K (gF hg390) Z Wp
       ·
         refine OB [(9, _), (33, _)] 40 Z Z Z (Sb.old Z Z (Sb.dep 1 Z Z Z Sb.nil)) ?_
         exact K (gF hg390) Z Wp
      refine KF hg390 Z (Pk hg390 Z (S Z (WO.nil ?_)))
      obtain rfl := Oi h389
      exact cutN (Lr [0, 1, 2])
     ·
      obtain ⟨x391, hx391, h389⟩ := bnd h389
      refine TC.draw 9 0 [32, 33, 34, 35, 36, 37, 38, 39, 40] [0, 0, 0, 0, 0, 0, 0, 0, 0] [false, false, false, false, false, false, false, false, false] [.bool s381.1, .bool s381.1, .agg (Course.c a1), .rsl 8 (List.map Starter.c a2), .int .i64 s381.2, .rp [.int .i64 x391.Bib, .int .i64 x391.Distance, .int .i64 x391.Wave, .int .i64 x391.Slot, .int .i64 x391.Age, .int .i64 x391.Chip, .int .i64 x391.Team, .int .i64 x391.Lot], .agg (Starter.c x391), .int .i64 s267.2.2, .int .i64 s357.2.2] [[.cells 33 (Course.c a1), .row 3 1 (List.map (encI .i64) s357.1), .row 3 1 (List.map (encI .i64) s357.2.1)]] ([.cells 33 (Course.c a1), .row 3 1 (List.map (encI .i64) s357.1), .row 3 1 (List.map (encI .i64) s357.2.1)]) draws Z Z Z Z Z Z Z Z ?_ ?_
      ·
       refine Ob.cons ?_ (Ob.cons ?_ (Ob.cons ?_ (Ob.cons ?_ (Ob.cons ?_ (Ob.cons ?_ (Ob.cons ?_ (Ob.cons ?_ (Ob.cons ?_ (Ob.nil)))))))))
       ·
         refine OB [(10, _)] 32 Z Z Z (Sb.old Z Z Sb.nil) ?_
         exact S Z Wp
       ·
         refine OB [(32, _)] 33 Z Z Z (Sb.dep 0 Z Z Z Sb.nil) ?_
         exact S Z Wp
       ·
         refine OB [(2, _), (33, _)] 34 Z Z Z (Sb.old Z Z (Sb.dep 1 Z Z Z Sb.nil)) ?_
         refine vX (.agg (Course.c a1)) (OpV.loadA Z isAgg33 sizeOf33 Z (Pts.cells Z Z) Z Z) ?_ (gT hg390)
         exact WO.nil Post1.mk
       ·
         refine OB [(1, _), (33, _)] 35 Z Z Z (Sb.old Z Z (Sb.dep 1 Z Z Z Sb.nil)) ?_
         exact Sg (gT hg390) Z Wp
       ·
         refine OB [(11, _), (33, _)] 36 Z Z Z (Sb.old Z Z (Sb.dep 1 Z Z Z Sb.nil)) ?_
         exact Sg (gT hg390) Z Wp
       ·
         refine OB [(33, _), (35, _), (36, _)] 37 Z Z Z (Sb.dep 1 Z Z Z (Sb.dep 3 Z Z Z (Sb.dep 4 Z Z Z Sb.nil))) ?_
         refine vX (.rp [.int .i64 x391.Bib, .int .i64 x391.Distance, .int .i64 x391.Wave, .int .i64 x391.Slot, .int .i64 x391.Age, .int .i64 x391.Chip, .int .i64 x391.Team, .int .i64 x391.Lot]) (OpV.ixM (e := Starter.c) (l := a2) (v := x391) hx391 runUnderlying34 sizeOf42) ?_ (gT hg390)
         exact WO.nil Post1.mk
       ·
         refine OB [(33, _), (37, _)] 38 Z Z Z (Sb.dep 1 Z Z Z (Sb.dep 5 Z Z Z Sb.nil)) ?_
         refine vX (.agg (Starter.c x391)) (OpV.loadA Z isAgg42 sizeOf42 Z Pts.rp Z Z) ?_ (gT hg390)
         exact WO.nil Post1.mk
       ·
         refine OB [(8, _), (33, _)] 39 Z Z Z (Sb.old Z Z (Sb.dep 1 Z Z Z Sb.nil)) ?_
         exact Sg (gT hg390) Z Wp
       ·
         refine OB [(9, _), (33, _)] 40 Z Z Z (Sb.old Z Z (Sb.dep 1 Z Z Z Sb.nil)) ?_
         exact Sg (gT hg390) Z Wp
      refine Bd h389 fun r392 hr392 h389 => ?_
      refine WO.callD [] (OpC.fn call32 Z Z Z) (k_ad _ _ _ _ _ _ hr392) ?_ (hg := (gT hg390))
      rintro _ _ ⟨rfl, rfl⟩
      refine aV (.bool r392) [_, _, _] Z Z ?_
      refine Pk hg390 Z (S Z (WO.nil ?_))
      obtain rfl := Oi h389
      exact cutN (Lr [0, 1, 2])
    exact bloN (seqN (TC.le hle (TC.region (S Z (S Z (S Z (WO.nil (loopN h383 (Lr [0, 1, 2])))))))))
   refine seqN (TC.le hle (Rg (S Z (Nx (Bd h359 fun b396 h397 h359 => ?_)))))
   refine TC.cut ([(1, .rsl 8 (List.map Starter.c a2)), (2, .ptr 0 0), (6, .osl 1 0 b396.1.length 1), (7, .osl 2 0 b396.2.length 1), (8, .int .i64 s267.2.2), (9, .int .i64 s357.2.2)]) ([.cells 33 (Course.c a1), .row 3 1 (List.map (encI .i64) b396.1), .row 3 1 (List.map (encI .i64) b396.2)]) ?_ (fun env H hle => ?_)
   ·
    refine Cn Z h397 (fun hc398 h397 => ?_) (fun hc398 h397 => ?_)
    ·
     refine Rg (S Z (S Z ?_))
     refine vH (OpH.lit (xs := [.tmp 45]) (es := List.map (encI .i64) [s267.2.2]) el_39 Z Z Z Z Z ⟨Z, trivial⟩ Z Z) ?_
     refine aV (.osl 3 0 ([s267.2.2].length) 1) [_, _, _, .row 3 1 (List.map (encI .i64) [s267.2.2])] Z Z ?_
     refine Bd h397 fun l399 hl399 h397 => ?_
     refine vH (OpH.appO (e := (encI .i64)) hl399 el_39 runUnderlying39 (Src.oM (i := 3))) ?_
     refine aV (.osl 4 0 l399.length 1) [_, .dead, _, _, .row 3 1 (List.map (encI .i64) l399)] Z Z ?_
     refine S Z (Nx (TC.region (S Z (S Z ?_))))
     refine vH (OpH.lit (xs := [.tmp 49]) (es := List.map (encI .i64) [s357.2.2]) el_39 Z Z Z Z Z ⟨Z, trivial⟩ Z Z) ?_
     refine aV (.osl 5 0 ([s357.2.2].length) 1) [_, _, _, _, _, .row 3 1 (List.map (encI .i64) [s357.2.2])] Z Z ?_
     refine Bd h397 fun l400 hl400 h397 => ?_
     refine vH (OpH.appO (e := (encI .i64)) hl400 el_39 runUnderlying39 (Src.oM (i := 5))) ?_
     refine aV (.osl 6 0 l400.length 1) [_, _, .dead, _, _, _, .row 3 1 (List.map (encI .i64) l400)] Z Z ?_
     refine S Z (WO.nil ?_)
     obtain rfl := Oi h397
     exact cutN (Lr [0, 4, 6])
    refine TC.skip ?_
    obtain rfl := Oi h397
    exact cutN (Lr [0, 1, 2])
   exact bloN (seqN (TC.le hle (TC.region (S Z (S Z (S Z (WO.nil (loopN h359 (Lr [0, 1, 2])))))))))
  exact bloN (seqN (TC.le hle (TC.region (S Z (S Z (S Z (WO.nil (loopN h269 (Lr [0, 1, 2])))))))))
 refine seqN (TC.le hle (Rg (S Z (S Z (S Z (S Z (Nx (TC.ret ?_))))))))
 obtain rfl := Oi h
 refine ⟨[(4, _), (5, _)], _, _, ?_, ResOK.two Z Z Z, Z, Z⟩
 exact Lr [0, 1]
def F_hh (n : Nat) (a1 : Course) (a2 : List Starter) (s30 : Int) : Option (Ctl Int (Ctl Unit Bool)) :=
  (bif decide (s30 < (a2.length : Int)) then (idx a2 s30).bind fun x34 => (F_p n a1 x34).bind fun r35 => (idx a2 s30).bind fun x36 => (F_ae n a1 x36).bind fun r37 => (F_f n r35 r37).bind fun r38 => (bif (!r38) then some (.done (.done false)) else some (.cont (IntKind.i64.wrap (s30 + 1)))) else some (.done (.cont ())))
def F_dd (n : Nat) (a1 : Course) (a2 : List Starter) (a3 : Int) (a4 : Int) : Option Bool :=
  (F_eu 300).bind fun r1 => (bif (!r1) then some false else ((F_ar n a1).bind fun r8 => (bif (!r8) then some true else (F_aq n a1 a2).bind fun r10 => some (!r10)) : Option Bool).bind fun b6 => (bif b6 then some true else (iter (F_hh n a1 a2) n 0 : Option (Ctl Unit Bool)).bind fun b27 => match b27 with | .cont sb27 => ((F_t n a1 a4).bind fun r40 => (F_fd n a1 a4).bind fun r41 => (F_af n a1 a2 a3 a4).bind fun r42 => (F_bs n a1 a2 a3 a4).bind fun r43 => (F_ab n a1 a2).bind fun r44 => (F_ca n a1 a2).bind fun r45 => ((bif (r40.1 == r41.1) then (bif (r40.2 == r41.2) then (F_f n r42.1 r43.1).bind fun r58 => (bif r58 then (bif (r42.2 == r43.2) then (F_f n r44.1 r45.1).bind fun r61 => (bif r61 then (F_f n r44.2 r45.2).bind fun r63 => some r63 else some false) else some false) else some false) else some false) else some false) : Option Bool).bind fun b54 => some b54) | .done sb27 => some sb27))
theorem k_dd (n : Nat) (a1 : Course) (a2 : List Starter) (a3 : Int) (a4 : Int) (r : Bool) (h : F_dd n a1 a2 a3 a4 = some r) :
    C prog 3 [.agg (Course.c a1), .rsl 8 (List.map Starter.c a2), .int .i64 a3, .int .i64 a4] [] (fun a H => a = .bool r ∧ H = []) := by
 refine C.of_body func3 Z Z Z ?_
 refine Rg ?_
 refine vH (OpH.box Z Z Z Z Z) ?_
 refine aV (.ptr 0 0) [.cells 33 (Course.c a1)] Z Z ?_
 refine S Z (Nx (TC.seq (Rg (Bd h fun r1 hr1 h => ?_))))
 refine WO.callD [] (OpC.fn call8 Z Z Z) (k_eu _ _ hr1) ?_
 rintro _ _ ⟨rfl, rfl⟩
 refine aV (.bool r1) [_] Z Z ?_
 refine S Z (Nx (Cn Z h (fun hc2 h => ?_) (fun hc2 h => ?_)))
 ·
  refine Rg (S Z (Nx (RtR ?_)))
  obtain rfl := Oi h
  refine ⟨[(8, _)], _, _, ?_, ResOK.one Z Z, Z, Z⟩
  exact Lr []
 refine SkN (TC.seq (TC.seq (Bd h fun b6 h7 h => ?_)))
 refine TC.cut ([(1, .rsl 8 (List.map Starter.c a2)), (2, .int .i64 a3), (3, .int .i64 a4), (4, .ptr 0 0), (32, .bool b6)]) ([.cells 33 (Course.c a1)]) ?_ (fun env H hle => ?_)
 ·
  refine TC.region ?_
  refine vX (.agg (Course.c a1)) (OpV.loadA Z isAgg33 sizeOf33 Z (Pts.cells Z Z) Z Z) ?_
  refine Bd h7 fun r8 hr8 h7 => ?_
  refine WO.callD [] (OpC.fn call9 Z Z Z) (k_ar _ _ _ hr8) ?_
  rintro _ _ ⟨rfl, rfl⟩
  refine aV (.bool r8) [_] Z Z ?_
  refine S Z (S Z (If h7 (fun hg9 h7 => ?_) (fun hg9 h7 => ?_)))
  ·
   refine KF hg9 Z (KF hg9 Z (KF hg9 Z (KF hg9 Z (Pk hg9 Z (WO.nil ?_)))))
   obtain rfl := Oi h7
   exact cutN (Lr [0])
  ·
   refine vX (.agg (Course.c a1)) (OpV.loadA Z isAgg33 sizeOf33 Z (Pts.cells Z Z) Z Z) ?_ (gT hg9)
   refine Sg (gT hg9) Z (Bd h7 fun r10 hr10 h7 => ?_)
   refine WO.callD [] (OpC.fn call10 Z Z Z) (k_aq _ _ _ _ hr10) ?_ (hg := (gT hg9))
   rintro _ _ ⟨rfl, rfl⟩
   refine aV (.bool r10) [_] Z Z ?_
   refine Sg (gT hg9) Z (Pk hg9 Z (WO.nil ?_))
   obtain rfl := Oi h7
   exact cutN (Lr [0])
 refine seqN (TC.le hle (Cn Z h (fun hc11 h => ?_) (fun hc11 h => ?_)))
 ·
  refine Rg (S Z (Nx (RtR ?_)))
  obtain rfl := Oi h
  refine ⟨[(8, _)], _, _, ?_, ResOK.one Z Z, Z, Z⟩
  exact Lr []
 refine SkN (TC.seq (Rg (S Z (Nx (Bd h fun b27 h28 h => ?_)))))
 refine TC.cutE (b := b27) (fun sb27 => [(1, .rsl 8 (List.map Starter.c a2)), (2, .int .i64 a3), (3, .int .i64 a4), (4, .ptr 0 0)]) (fun sb27 => [.cells 33 (Course.c a1)]) ?_ (fun sb27 env H hbe hle => ?_)
 ·
  refine TC.block ?_
  refine TC.loop (E := fun s30 => [(1, .rsl 8 (List.map Starter.c a2)), (2, .int .i64 a3), (3, .int .i64 a4), (4, .ptr 0 0), (9, .int .i64 s30)]) (Hp := fun s30 => [.cells 33 (Course.c a1)]) h28 ?_ ?_
  ·
   exact Lr [0]
  intro s30 d31 h32 hb29
  refine TC.seq (Rg (S Z (S Z (LnM runUnderlying34 Z (S Z (Nx (CnS Z h32 (fun hc33 h32 => ?_) (fun hc33 h32 => ?_))))))))
  ·
   refine ExX (loopX h32 ?_)
   obtain rfl := hb29 _ (Oi h32).symm
   exact bloE (cutEN Z (Lr [0]))
  refine SkN (TC.seq (TC.block (TC.seq ?_)))
  obtain ⟨x34, hx34, h32⟩ := bnd h32
  obtain ⟨r35, hr35, h32⟩ := bnd h32
  obtain ⟨x36, hx36, h32⟩ := bnd h32
  refine TC.draw 11 1 [39, 40, 41, 42, 43, 44, 45, 46, 47, 48, 49] [0, 0, 0, 0, 0, 0, 0, 0, 0, 0, 0] [false, false, false, false, false, true, false, false, false, false, false] [.agg (Course.c a1), .rsl 8 (List.map Starter.c a2), .int .i64 s30, .rp [.int .i64 x34.Bib, .int .i64 x34.Distance, .int .i64 x34.Wave, .int .i64 x34.Slot, .int .i64 x34.Age, .int .i64 x34.Chip, .int .i64 x34.Team, .int .i64 x34.Lot], .agg (Starter.c x34), .osl 1 0 r35.length 1, .agg (Course.c a1), .rsl 8 (List.map Starter.c a2), .int .i64 s30, .rp [.int .i64 x36.Bib, .int .i64 x36.Distance, .int .i64 x36.Wave, .int .i64 x36.Slot, .int .i64 x36.Age, .int .i64 x36.Chip, .int .i64 x36.Team, .int .i64 x36.Lot], .agg (Starter.c x36)] [[.cells 33 (Course.c a1)], [.cells 33 (Course.c a1), .row 3 1 (List.map (encI .i64) r35)]] ([.cells 33 (Course.c a1), .row 3 1 (List.map (encI .i64) r35)]) draws Z Z Z Z Z Z Z Z ?_ ?_
  ·
   refine Ob.cons ?_ (Ob.cons ?_ (Ob.cons ?_ (Ob.cons ?_ (Ob.cons ?_ (Ob.cons ?_ (Ob.cons ?_ (Ob.cons ?_ (Ob.cons ?_ (Ob.cons ?_ (Ob.cons ?_ (Ob.nil)))))))))))
   ·
    refine Ob.stC ?_ (Ob.stC ?_ (Ob.st0))
    ·
     refine OblAt.mk _ [(4, _)] 39 _ Z Z Z (Sb.old Z Z Sb.nil) ?_
     refine vX (.agg (Course.c a1)) (OpV.loadA Z isAgg33 sizeOf33 Z (Pts.cells Z Z) Z Z) ?_
     exact WO.nil Post1.mk
    ·
     refine OblAt.mk _ [(4, _)] 39 _ Z Z Z (Sb.old Z Z Sb.nil) ?_
     refine vX (.agg (Course.c a1)) (OpV.loadA Z isAgg33 sizeOf33 Z (Pts.cells Z Z) Z Z) ?_
     exact WO.nil Post1.mk
   ·
    refine Ob.stC ?_ (Ob.stC ?_ (Ob.st0))
    ·
     refine OblAt.mk _ [(1, _)] 40 _ Z Z Z (Sb.old Z Z Sb.nil) ?_
     exact S Z Wp
    ·
     refine OblAt.mk _ [(1, _)] 40 _ Z Z Z (Sb.old Z Z Sb.nil) ?_
     exact S Z Wp
   ·
    refine Ob.stC ?_ (Ob.stC ?_ (Ob.st0))
    ·
     refine OblAt.mk _ [(9, _)] 41 _ Z Z Z (Sb.old Z Z Sb.nil) ?_
     exact S Z Wp
    ·
     refine OblAt.mk _ [(9, _)] 41 _ Z Z Z (Sb.old Z Z Sb.nil) ?_
     exact S Z Wp
   ·
    refine Ob.stC ?_ (Ob.stC ?_ (Ob.st0))
    ·
     refine OblAt.mk _ [(40, _), (41, _)] 42 _ Z Z Z (Sb.dep 1 Z Z Z (Sb.dep 2 Z Z Z Sb.nil)) ?_
     exact Ix hx34 runUnderlying34 sizeOf42 Z Wp
    ·
     refine OblAt.mk _ [(40, _), (41, _)] 42 _ Z Z Z (Sb.dep 1 Z Z Z (Sb.dep 2 Z Z Z Sb.nil)) ?_
     exact Ix hx34 runUnderlying34 sizeOf42 Z Wp
   ·
    refine Ob.stC ?_ (Ob.stC ?_ (Ob.st0))
    ·
     refine OblAt.mk _ [(42, _)] 43 _ Z Z Z (Sb.dep 3 Z Z Z Sb.nil) ?_
     refine vX (.agg (Starter.c x34)) (OpV.loadA Z isAgg42 sizeOf42 Z Pts.rp Z Z) ?_
     exact WO.nil Post1.mk
    ·
     refine OblAt.mk _ [(42, _)] 43 _ Z Z Z (Sb.dep 3 Z Z Z Sb.nil) ?_
     refine vX (.agg (Starter.c x34)) (OpV.loadA Z isAgg42 sizeOf42 Z Pts.rp Z Z) ?_
     exact WO.nil Post1.mk
   ·
     refine OB [(39, _), (43, _)] 44 Z Z Z (Sb.dep 0 Z Z Z (Sb.dep 4 Z Z Z Sb.nil)) ?_
     refine WO.callD [] (OpC.fn call12 Z Z Z) (k_p _ _ _ _ hr35) ?_
     rintro _ _ ⟨rfl, rfl⟩
     refine aV (.osl 1 0 r35.length 1) [_, .row 3 1 (List.map (encI .i64) r35)] Z Z ?_
     exact WO.nil Post1.mk
   ·
    refine Ob.stC ?_ (Ob.stC ?_ (Ob.st0))
    ·
     refine OblAt.mk _ [(4, _)] 45 _ Z Z Z (Sb.old Z Z Sb.nil) ?_
     refine vX (.agg (Course.c a1)) (OpV.loadA Z isAgg33 sizeOf33 Z (Pts.cells Z Z) Z Z) ?_
     exact WO.nil Post1.mk
    ·
     refine OblAt.mk _ [(4, _)] 45 _ Z Z Z (Sb.old Z Z Sb.nil) ?_
     refine vX (.agg (Course.c a1)) (OpV.loadA Z isAgg33 sizeOf33 Z (Pts.cells Z Z) Z Z) ?_
     exact WO.nil Post1.mk
   ·
    refine Ob.stC ?_ (Ob.stC ?_ (Ob.st0))
    ·
     refine OblAt.mk _ [(1, _)] 46 _ Z Z Z (Sb.old Z Z Sb.nil) ?_
     exact S Z Wp
    ·
     refine OblAt.mk _ [(1, _)] 46 _ Z Z Z (Sb.old Z Z Sb.nil) ?_
     exact S Z Wp
   ·
    refine Ob.stC ?_ (Ob.stC ?_ (Ob.st0))
    ·
     refine OblAt.mk _ [(9, _)] 47 _ Z Z Z (Sb.old Z Z Sb.nil) ?_
     exact S Z Wp
    ·
     refine OblAt.mk _ [(9, _)] 47 _ Z Z Z (Sb.old Z Z Sb.nil) ?_
     exact S Z Wp
   ·
    refine Ob.stC ?_ (Ob.stC ?_ (Ob.st0))
    ·
     refine OblAt.mk _ [(46, _), (47, _)] 48 _ Z Z Z (Sb.dep 7 Z Z Z (Sb.dep 8 Z Z Z Sb.nil)) ?_
     exact Ix hx36 runUnderlying34 sizeOf42 Z Wp
    ·
     refine OblAt.mk _ [(46, _), (47, _)] 48 _ Z Z Z (Sb.dep 7 Z Z Z (Sb.dep 8 Z Z Z Sb.nil)) ?_
     exact Ix hx36 runUnderlying34 sizeOf42 Z Wp
   ·
    refine Ob.stC ?_ (Ob.stC ?_ (Ob.st0))
    ·
     refine OblAt.mk _ [(48, _)] 49 _ Z Z Z (Sb.dep 9 Z Z Z Sb.nil) ?_
     refine vX (.agg (Starter.c x36)) (OpV.loadA Z isAgg42 sizeOf42 Z Pts.rp Z Z) ?_
     exact WO.nil Post1.mk
    ·
     refine OblAt.mk _ [(48, _)] 49 _ Z Z Z (Sb.dep 9 Z Z Z Sb.nil) ?_
     refine vX (.agg (Starter.c x36)) (OpV.loadA Z isAgg42 sizeOf42 Z Pts.rp Z Z) ?_
     exact WO.nil Post1.mk
  refine Bd h32 fun r37 hr37 h32 => ?_
  refine WO.callD [] (OpC.fn call13 Z Z Z) (k_ae _ _ _ _ hr37) ?_
  rintro _ _ ⟨rfl, rfl⟩
  refine aV (.osl 2 0 r37.length 1) [_, _, .row 3 1 (List.map (encI .i64) r37)] Z Z ?_
  refine Bd h32 fun r38 hr38 h32 => ?_
  refine WO.callB (OpC.fn call11 rfl rfl rfl) (LookL.cons rfl (.inr ⟨_, _, _, _, _, rfl, rfl, List.length_map .., rfl⟩) (LookL.cons rfl (.inr ⟨_, _, _, _, _, rfl, rfl, List.length_map .., rfl⟩) LookL.nil)) (k_f _ _ _ _ hr38) (by rintro _ _ ⟨rfl, rfl⟩; rfl) ?_
  rintro _ _ ⟨rfl, rfl⟩
  refine aV (.bool r38) [_, _, _] Z Z ?_
  refine S Z (Nx (Cn Z h32 (fun hc39 h32 => ?_) (fun hc39 h32 => ?_)))
  ·
   refine Rg (S Z (Nx (TC.ret (bloR (seqR (loopR h32 ?_))))))
   obtain rfl := hb29 _ (Oi h32).symm
   refine bloR (cutER (seqR ?_))
   obtain rfl := Oi h
   refine ⟨[(8, _)], _, _, ?_, ResOK.one Z Z, Z, Z⟩
   exact Lr []
  exact TC.skip (bloN (seqN (TC.region (S Z (S Z (S Z (WO.nil (loopN h32 (Lr [0])))))))))
 subst hbe
 refine seqN (TC.le hle (Rg ?_))
 refine vX (.agg (Course.c a1)) (OpV.loadA Z isAgg33 sizeOf33 Z (Pts.cells Z Z) Z Z) ?_
 refine S Z (Bd h fun r40 hr40 h => ?_)
 refine WO.callD [] (OpC.fn call14 Z Z Z) (k_t _ _ _ _ hr40) ?_
 rintro _ _ ⟨rfl, rfl⟩
 refine aV (.tup [.str r40.1, .int .i64 r40.2]) [_] Z Z ?_
 refine S Z (S Z (S Z (S Z (S Z (Nx (Rg ?_))))))
 refine vX (.agg (Course.c a1)) (OpV.loadA Z isAgg33 sizeOf33 Z (Pts.cells Z Z) Z Z) ?_
 refine S Z (Bd h fun r41 hr41 h => ?_)
 refine WO.callD [] (OpC.fn call15 Z Z Z) (k_fd _ _ _ _ hr41) ?_
 rintro _ _ ⟨rfl, rfl⟩
 refine aV (.tup [.str r41.1, .int .i64 r41.2]) [_] Z Z ?_
 refine S Z (S Z (S Z (S Z (S Z (Nx (Rg ?_))))))
 refine vX (.agg (Course.c a1)) (OpV.loadA Z isAgg33 sizeOf33 Z (Pts.cells Z Z) Z Z) ?_
 refine S Z (S Z (S Z (Bd h fun r42 hr42 h => ?_)))
 refine WO.callD [] (OpC.fn call16 Z Z Z) (k_af _ _ _ _ _ _ hr42) ?_
 rintro _ _ ⟨rfl, rfl⟩
 refine aV (.tup [.osl 1 0 r42.1.length 1, .int .i64 r42.2]) [_, .row 3 1 (List.map (encI .i64) r42.1)] Z Z ?_
 refine S Z (S Z (S Z (S Z (S Z (Nx (Rg ?_))))))
 refine vX (.agg (Course.c a1)) (OpV.loadA Z isAgg33 sizeOf33 Z (Pts.cells Z Z) Z Z) ?_
 refine S Z (S Z (S Z (Bd h fun r43 hr43 h => ?_)))
 refine WO.callD [] (OpC.fn call17 Z Z Z) (k_bs _ _ _ _ _ _ hr43) ?_
 rintro _ _ ⟨rfl, rfl⟩
 refine aV (.tup [.osl 2 0 r43.1.length 1, .int .i64 r43.2]) [_, _, .row 3 1 (List.map (encI .i64) r43.1)] Z Z ?_
 refine S Z (S Z (S Z (S Z (S Z (Nx (Rg ?_))))))
 refine vX (.agg (Course.c a1)) (OpV.loadA Z isAgg33 sizeOf33 Z (Pts.cells Z Z) Z Z) ?_
 refine S Z (Bd h fun r44 hr44 h => ?_)
 refine WO.callD [] (OpC.fn call18 Z Z Z) (k_ab _ _ _ _ hr44) ?_
 rintro _ _ ⟨rfl, rfl⟩
 refine aV (.tup [.osl 3 0 r44.1.length 1, .osl 4 0 r44.2.length 1]) [_, _, _, .row 3 1 (List.map (encI .i64) r44.1), .row 3 1 (List.map (encI .i64) r44.2)] Z Z ?_
 refine S Z (S Z (S Z (S Z (S Z (Nx (Rg ?_))))))
 refine vX (.agg (Course.c a1)) (OpV.loadA Z isAgg33 sizeOf33 Z (Pts.cells Z Z) Z Z) ?_
 refine S Z (Bd h fun r45 hr45 h => ?_)
 refine WO.callD [] (OpC.fn call19 Z Z Z) (k_ca _ _ _ _ hr45) ?_
 rintro _ _ ⟨rfl, rfl⟩
 refine aV (.tup [.osl 5 0 r45.1.length 1, .osl 6 0 r45.2.length 1]) [_, _, _, _, _, .row 3 1 (List.map (encI .i64) r45.1), .row 3 1 (List.map (encI .i64) r45.2)] Z Z ?_
 refine S Z (S Z (S Z (S Z (S Z (Nx (TC.seq (Bd h fun b54 h55 h => ?_)))))))
 refine TC.cut ([(8, .bool b54)]) ([]) ?_ (fun env H hle => ?_)
 ·
  refine TC.region (S Z (S Z (S Z (S Z (If h55 (fun hg56 h55 => ?_) (fun hg56 h55 => ?_))))))
  ·
   refine Sg (gT hg56) Z (Sg (gT hg56) Z (Sg (gT hg56) Z (Pk hg56 Z (S Z (If h55 (fun hg57 h55 => ?_) (fun hg57 h55 => ?_))))))
   ·
    refine Sg (gT hg57) Z (Sg (gT hg57) Z (Bd h55 fun r58 hr58 h55 => ?_))
    refine WO.callB (OpC.fn call11 rfl rfl rfl) (LookL.cons rfl (.inr ⟨_, _, _, _, _, rfl, rfl, List.length_map .., rfl⟩) (LookL.cons rfl (.inr ⟨_, _, _, _, _, rfl, rfl, List.length_map .., rfl⟩) LookL.nil)) (k_f _ _ _ _ hr58) (by rintro _ _ ⟨rfl, rfl⟩; rfl) ?_ (gT hg57)
    rintro _ _ ⟨rfl, rfl⟩
    refine aV (.bool r58) [_, _, _, _, _, _, _] Z Z ?_
    refine Pk hg57 Z (S Z (If h55 (fun hg59 h55 => ?_) (fun hg59 h55 => ?_)))
    ·
     refine Sg (gT hg59) Z (Sg (gT hg59) Z (Sg (gT hg59) Z (Pk hg59 Z (S Z (If h55 (fun hg60 h55 => ?_) (fun hg60 h55 => ?_))))))
     ·
      refine Sg (gT hg60) Z (Sg (gT hg60) Z (Bd h55 fun r61 hr61 h55 => ?_))
      refine WO.callB (OpC.fn call11 rfl rfl rfl) (LookL.cons rfl (.inr ⟨_, _, _, _, _, rfl, rfl, List.length_map .., rfl⟩) (LookL.cons rfl (.inr ⟨_, _, _, _, _, rfl, rfl, List.length_map .., rfl⟩) LookL.nil)) (k_f _ _ _ _ hr61) (by rintro _ _ ⟨rfl, rfl⟩; rfl) ?_ (gT hg60)
      rintro _ _ ⟨rfl, rfl⟩
      refine aV (.bool r61) [_, _, _, _, _, _, _] Z Z ?_
      refine Pk hg60 Z (S Z (If h55 (fun hg62 h55 => ?_) (fun hg62 h55 => ?_)))
      ·
       refine Sg (gT hg62) Z (Sg (gT hg62) Z (Bd h55 fun r63 hr63 h55 => ?_))
       refine WO.callB (OpC.fn call11 rfl rfl rfl) (LookL.cons rfl (.inr ⟨_, _, _, _, _, rfl, rfl, List.length_map .., rfl⟩) (LookL.cons rfl (.inr ⟨_, _, _, _, _, rfl, rfl, List.length_map .., rfl⟩) LookL.nil)) (k_f _ _ _ _ hr63) (by rintro _ _ ⟨rfl, rfl⟩; rfl) ?_ (gT hg62)
       rintro _ _ ⟨rfl, rfl⟩
       refine aV (.bool r63) [_, _, _, _, _, _, _] Z Z ?_
       refine Pk hg62 Z (S Z (WO.nil ?_))
       obtain rfl := Oi h55
       exact cutN (Lr [])
      ·
       refine KF hg62 Z (KF hg62 Z (KF hg62 Z (Pk hg62 Z (S Z (WO.nil ?_)))))
       obtain rfl := Oi h55
       exact cutN (Lr [])
     ·
      refine KF hg60 Z (KF hg60 Z (KF hg60 Z (Pk hg60 Z (S Z (KF Z Z (KF Z Z (KF Z Z (S Z (S Z (WO.nil ?_))))))))))
      obtain rfl := Oi h55
      exact cutN (Lr [])
    ·
     refine KF hg59 Z (KF hg59 Z (KF hg59 Z (Pk hg59 Z (S Z (KF Z Z (KF Z Z (KF Z Z (S Z (S Z (KF Z Z (KF Z Z (KF Z Z (S Z (S Z (WO.nil ?_)))))))))))))))
     obtain rfl := Oi h55
     exact cutN (Lr [])
   ·
    refine KF hg57 Z (KF hg57 Z (KF hg57 Z (Pk hg57 Z (S Z (KF Z Z (KF Z Z (KF Z Z (S Z (S Z (KF Z Z (KF Z Z (KF Z Z (S Z (S Z (KF Z Z (KF Z Z (KF Z Z (S Z (S Z (WO.nil ?_))))))))))))))))))))
    obtain rfl := Oi h55
    exact cutN (Lr [])
  ·
   refine KF hg56 Z (KF hg56 Z (KF hg56 Z (Pk hg56 Z (S Z (KF Z Z (KF Z Z (KF Z Z (S Z (S Z (KF Z Z (KF Z Z (KF Z Z (S Z (S Z (KF Z Z (KF Z Z (KF Z Z (S Z (S Z (KF Z Z (KF Z Z (KF Z Z (S Z (S Z (WO.nil ?_)))))))))))))))))))))))))
   obtain rfl := Oi h55
   exact cutN (Lr [])
 refine seqN (TC.le hle (TC.ret ?_))
 obtain rfl := Oi h
 refine ⟨[(8, _)], _, _, ?_, ResOK.one Z Z, Z, Z⟩
 exact Lr []
end Go.Sw
