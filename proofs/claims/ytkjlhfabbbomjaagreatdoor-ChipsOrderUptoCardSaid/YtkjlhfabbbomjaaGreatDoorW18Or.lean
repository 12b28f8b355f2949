/- What the functions compute that ChipsOrder reaches, and that their calls refine it (part 3 of 3). -/
import Derived.Test.YtkjlhfabbbomjaaGreatDoorW18Or2
set_option linter.unusedVariables false
set_option linter.unusedSimpArgs false
set_option maxRecDepth 100000
set_option maxHeartbeats 4000000
namespace Go.Sw
open Go.Proofs Tryz
def F_em (n : Nat) (a1 : Value) : Option ((List Int) × Int) :=
  (F_ey n a1).bind fun r1 => (bif (r1 != 0) then some ([], r1) else (F_as n).bind fun r3 => (bif (a1.Kind == 0) then none else (bif (a1.Kind == 1) then (F_fh n a1).bind fun r6 => some (r6, 0) else (bif (a1.Kind == 2) then none else (bif (a1.Kind == 3) then (F_ap n a1).bind fun r9 => some (r9, 0) else none)))))
theorem k_em (n : Nat) (a1 : Value) (r : (List Int) × Int) (h : F_em n a1 = some r) :
    C prog 85 [.agg (Value.c a1)] [] (fun a H => a = .tup [.osl 0 0 r.1.length 1, I r.2] ∧ H = [.row 5 1 (List.map (encI .u8) r.1)]) := by
 refine Qd func85 Z Z Z ?_
 refine Rg (U 3 Z (Nx (TC.seq (Rg (U 1 Z (Bd h fun r1 hr1 h => Pc [] Z (OpC.fn call149 Z Z Z) (k_ey _ _ _ hr1) Z (U 1 Z (Nx (Rg (U 2 Z (Nx (Cn Z h (fun hc2 h => ?_) (fun hc2 h => ?_)))))))))))))
 ·refine Rg (U 3 Z (Nx (RtR ?_)))
  obtain rfl := Oi h
  refine R2 2 3 Z Z ?_
  refine Le.trans (Le.phantom (s := 2) (k := 1) (t := 5) (Nat.le_of_ble_eq_true Z) Z) ?_
  exact Lr [1]
 refine QU (TC.seq ?_)
 obtain ⟨r3, hr3, h⟩ := bnd h
 refine If h (fun hg4 h => ?_) (fun hg4 h => ?_)
 ·cases h
 ·refine If h (fun hg5 h => ?_) (fun hg5 h => ?_)
  ·refine QW 8 0 [10, 11, 12, 13, 14, 15, 16, 17] [true, false, false, false, false, false, false, false] [[], [], [], [0], [0], [0], [0], []] [[], [0]] [[(0, 1)], [(0, 0), (1, 1)], [(0, 0), (1, 1)], [(1, 1)], [(1, 1)], [(1, 1)], [(1, 1)], [(0, 0), (1, 1)]] [.ptr 1 0, .ptr 0 0, I a1.Kind, .ptr 1 0, .ptr 1 1, .ptr 1 1, .fn (.func 201) [] [], .agg (Value.c a1)] [[.cells 184 (Value.c a1)], [.cells 184 (Value.c a1), .cells 284 [.nilf, .fn (.func 201) [] [], .fn (.func 204) [] [], .fn (.func 205) [] [.ptr 2 0]], .cells 249 [.ptr 1 0]]] ([.cells 184 (Value.c a1), .cells 284 [.nilf, .fn (.func 201) [] [], .fn (.func 204) [] [], .fn (.func 205) [] [.ptr 2 0]], .cells 249 [.ptr 1 0]]) draws Z Z Z Z Z Z Z ?_ Z ?_
   ·refine OblM.cons ?_ (OblM.cons (Qa (v0 Z Z) (Qa (v0 Z Z) (Qc))) (OblM.cons (Qa (v0 Z Z) (Qa (v0 Z Z) (Qc))) (OblM.cons ?_ (OblM.cons ?_ (OblM.cons (Qa (v0 Z Z) (Qc)) (OblM.cons (Qa (v0 Z Z) (Qc)) (OblM.cons (Qa (v0 Z Z) (Qa (v0 Z Z) (Qc))) (OblM.nil))))))))
    ·refine Qa ?_ (Qc)
     ·refine Om1 Z sN ?_
      refine Qe [] (OpC.fn call150 Z Z Z) (k_as _ _ hr3) ?_
      rintro _ _ ⟨rfl, rfl⟩
      exact FE Z Wp
    ·refine Qa ?_ (Qc)
     ·refine Om Z (sD 0 sN) ?_
      exact S Z Wp
    ·refine Qa ?_ (Qc)
     ·refine Om Z (sD 2 (sD 3 sN)) ?_
      refine vX (.ptr 1 1) (Yd (i := a1.Kind) (n := 4) (k := 1) (j := 1) hg5 Z runUnderlying284 sizeOf248 Z) ?_
      exact Wp
   refine Bd h fun r6 hr6 h => ?_
   refine Qe [] (Qj call201 Z Z Z Z) (k_fh _ _ _ hr6) ?_
   rintro _ _ ⟨rfl, rfl⟩
   refine FE Z (U 2 Z (Nx (TC.ret ?_)))
   obtain rfl := Oi h
   exact R2 2 3 Z Z (Lr [3])
  ·refine If h (fun hg7 h => ?_) (fun hg7 h => ?_)
   ·cases h
   ·refine If h (fun hg8 h => ?_) (fun hg8 h => ?_)
    ·refine QW 8 0 [10, 11, 12, 13, 14, 15, 16, 17] [true, false, false, false, false, false, false, false] [[], [], [], [0], [0], [0], [0], []] [[], [0]] [[(0, 1)], [(0, 0), (1, 1)], [(0, 0), (1, 1)], [(1, 1)], [(1, 1)], [(1, 1)], [(1, 1)], [(0, 0), (1, 1)]] [.ptr 1 0, .ptr 0 0, I a1.Kind, .ptr 1 0, .ptr 1 3, .ptr 1 3, .fn (.func 205) [] [.ptr 2 0], .agg (Value.c a1)] [[.cells 184 (Value.c a1)], [.cells 184 (Value.c a1), .cells 284 [.nilf, .fn (.func 201) [] [], .fn (.func 204) [] [], .fn (.func 205) [] [.ptr 2 0]], .cells 249 [.ptr 1 0]]] ([.cells 184 (Value.c a1), .cells 284 [.nilf, .fn (.func 201) [] [], .fn (.func 204) [] [], .fn (.func 205) [] [.ptr 2 0]], .cells 249 [.ptr 1 0]]) draws Z Z Z Z Z Z Z ?_ Z ?_
     ·refine OblM.cons ?_ (OblM.cons (Qa (v0 Z Z) (Qa (v0 Z Z) (Qc))) (OblM.cons (Qa (v0 Z Z) (Qa (v0 Z Z) (Qc))) (OblM.cons ?_ (OblM.cons ?_ (OblM.cons (Qa (v0 Z Z) (Qc)) (OblM.cons (Qa (v0 Z Z) (Qc)) (OblM.cons (Qa (v0 Z Z) (Qa (v0 Z Z) (Qc))) (OblM.nil))))))))
      ·refine Qa ?_ (Qc)
       ·refine Om1 Z sN ?_
        refine Qe [] (OpC.fn call150 Z Z Z) (k_as _ _ hr3) ?_
        rintro _ _ ⟨rfl, rfl⟩
        exact FE Z Wp
      ·refine Qa ?_ (Qc)
       ·refine Om Z (sD 0 sN) ?_
        exact S Z Wp
      ·refine Qa ?_ (Qc)
       ·refine Om Z (sD 2 (sD 3 sN)) ?_
        refine vX (.ptr 1 3) (Yd (i := a1.Kind) (n := 4) (k := 1) (j := 3) hg8 Z runUnderlying284 sizeOf248 Z) ?_
        exact Wp
     refine Bd h fun r9 hr9 h => ?_
     refine Qe [2, 1] (Qj call205 Z Z Z Z) (k_ap _ _ _ hr9) ?_
     rintro _ _ ⟨rfl, rfl⟩
     refine FE Z (U 2 Z (Nx (TC.ret ?_)))
     obtain rfl := Oi h
     exact R2 2 3 Z Z (Lr [3])
    ·cases h
def F_fs (n : Nat) (r1 : (List Int) × Bool) (s13 : (List Value) × Int) : Option (Ctl ((List Value) × Int) (List Value)) :=
  (bif decide (s13.2 < (r1.1.length : Int)) then (idx r1.1 s13.2).bind fun x17 => (app s13.1 [{ Kind := 1, N := x17, S := [], L := [] : Value }]).bind fun l18 => some (.cont (l18, IntKind.i64.wrap (s13.2 + 1))) else some (.done s13.1))
def F_ab (n : Nat) (a1 : Fact) : Option ((List Int) × Int) :=
  (F_ae n a1).bind fun r1 => (bif (!r1.2) then some ([], 120) else (iter (F_fs n r1) n ([], 0) : Option (List Value)).bind fun b10 => (F_em n ({ Kind := 3, N := 0, S := [], L := b10 : Value })).bind fun r19 => some (r19.1, r19.2))
theorem k_ab (n : Nat) (a1 : Fact) (r : (List Int) × Int) (h : F_ab n a1 = some r) :
    C prog 50 [.agg (Fact.c a1)] [] (fun a H => a = .tup [.osl 0 0 r.1.length 1, I r.2] ∧ H = [.row 5 1 (List.map (encI .u8) r.1)]) := by
 refine Qd func50 Z Z Z ?_
 refine Rg (U 3 Z (Nx (Rg (U 1 Z (Bd h fun r1 hr1 h => ?_)))))
 refine Qe [] (OpC.fn call49 Z Z Z) (k_ae _ _ _ hr1) ?_
 rintro _ _ ⟨rfl, rfl⟩
 refine FE Z (U 5 Z (Nx (TC.seq (Rg (U 2 Z (Nx (Cn Z h (fun hc2 h => ?_) (fun hc2 h => ?_))))))))
 ·refine Rg (U 2 Z (Nx (RtR ?_)))
  obtain rfl := Oi h
  refine R2 2 3 Z Z ?_
  refine Le.trans (Le.phantom (s := 2) (k := 1) (t := 5) (Nat.le_of_ble_eq_true Z) Z) ?_
  exact Lr [2]
 refine QU (Rg ?_)
 refine vX (.agg [I 3, I 0, .str [], .nils]) (OpV.build (zs := [I 0, I 0, .str [], .nils]) zeroValue184 (zrC Z) Qh2) ?_
 refine vH (Qa5 (v := (.agg [I 0, I 0, .str [], .nils])) zeroValue184 (zrC Z)) ?_
 refine FE Z (U 1 Z (Nx (TC.seq (Rg (U 3 Z (Nx (Bd h fun b10 h11 h => ?_)))))))
 refine TC.cut ([(6, .ptr 0 0)]) ([.cells 184 [I 3, I 0, .str [], .osl 1 0 b10.length 4], .row 184 4 (List.map Value.enc b10)]) ?_ (fun env H hle => ?_)
 ·refine TC.block ?_
  refine TC.loop (E := fun s13 => [(6, .ptr 0 0), (17, .osl 2 0 r1.1.length 1), (18, I (r1.1.length : Int)), (19, I s13.2)]) (Hp := fun s13 => [.cells 184 [I 3, I 0, .str [], .osl 1 0 s13.1.length 4], .row 184 4 (List.map Value.enc s13.1), .row 3 1 (List.map (encI .i64) r1.1)]) h11 ?_ ?_
  ·refine Le.trans (QfL (i := 2) (m := 3) (t := 184) (k := 4) Z Z Z) ?_
   exact Lr [2, 3, 1]
  intro s13 d14 h15 hb12
  refine Rg (U 1 Z (Nx (TC.seq (CnS Z h15 (fun hc16 h15 => ?_) (fun hc16 h15 => ?_)))))
  ·refine ExX (Qz h15 ?_)
   obtain rfl := hb12 _ (Oi h15).symm
   exact QQ (cutN (Lr [0, 1]))
  refine QU (TC.seq (TC.block (Rg (Bd h15 fun x17 hx17 h15 => ?_))))
  refine vX (.ptr 2 (Int.toNat s13.2 * 1)) (Yo hx17 Z runUnderlying48 sizeOf3) ?_
  refine vX (I x17) (OpV.load Z isAgg3 Z (QL hx17)) ?_
  refine U 1 Z (Nx (TC.region (U 4 Z ?_)))
  refine vH (OpH.lit (xs := [.tmp 26]) (es := List.map Value.enc [{ Kind := 1, N := x17, S := [], L := [] : Value }]) Qja Z Z Z Z Z ⟨Z, trivial⟩ Z Z) ?_
  refine FE Z (Bd h15 fun l18 hl18 h15 => ?_)
  refine vH (QN (e := Value.enc) hl18 Qja runUnderlying182 (Qay (i := 3))) ?_
  exact FE Z (U 2 Z (WO.nil (QD (Qf (TC.region (U 2 Z (WO.nil (Qu h15 (Lr [0, 4, 2])))))))))
 refine Qf (TC.le hle (Rg (U 1 Z ?_)))
 refine WO.le (QaG [(31, _)] Z Z (FzOv.cons Z (FzA.agg (FzL.cons (FzA.refl _) (FzL.cons (FzA.refl _) (FzL.cons (FzA.refl _) (FzL.cons FzA.o (FzL.refl _)))))) FzOv.nil) (FzH.cells (FzL.cons (FzA.refl _) (FzL.cons (FzA.refl _) (FzL.cons (FzA.refl _) (FzL.cons FzA.o (FzL.refl _))))) (FzH.keep (YB _)))) ?_
 refine Bd h fun r19 hr19 h => ?_
 refine Qe [] (OpC.fn call85 Z Z Z) (k_em _ _ _ hr19) ?_
 rintro _ _ ⟨rfl, rfl⟩
 refine FE Z (U 4 Z (Nx (TC.ret ?_)))
 obtain rfl := Oi h
 exact R2 2 3 Z Z (Lr [2])
def F_fp (n : Nat) (a1 : List Int) (a2 : List Int) : Option Unit :=
  some ()
theorem k_fp (n : Nat) (a1 : List Int) (a2 : List Int) (r : Unit) (h : F_fp n a1 a2 = some r) :
    C prog 51 [.rsl 1 (List.map (encI .u8) a1), .rsl 1 (List.map (encI .u8) a2)] [] (fun a H => a = I (cmpB a1 a2) ∧ H = []) := by
 refine Qd func51 Z Z Z ?_
 refine Rg (U 1 Z (Nx (Rg (U 2 Z ?_))))
 refine vX (I (cmpB a1 a2)) (OpV.cmpB (l := a1) (m := a2) func86 (by kernel_rfl) (by kernel_rfl) (by kernel_rfl) (by kernel_rfl) SrcB.rsl SrcB.rsl) ?_
 refine U 1 Z (Nx (TC.ret ?_))
 obtain rfl := Oi h
 exact R1 4 Z (Lr [])
def F_ci (n : Nat) (a1 : Fact) (a2 : Fact) : Option Int :=
  (F_l n a1.At a2.At).bind fun r1 => (F_l n a1.Crew a2.Crew).bind fun r2 => (F_l n a1.No a2.No).bind fun r3 => (F_w n [r1, r2, r3]).bind fun r4 => (bif (r4 != 0) then some r4 else (F_ab n a1).bind fun r6 => (F_ab n a2).bind fun r7 => (F_fp n r6.1 r7.1).bind fun r8 => some (cmpB r6.1 r7.1))
theorem k_ci (n : Nat) (a1 : Fact) (a2 : Fact) (r : Int) (h : F_ci n a1 a2 = some r) :
    C prog 27 [.agg (Fact.c a1), .agg (Fact.c a2)] [] (fun a H => a = I r ∧ H = []) := by
 refine Qd func27 Z Z Z ?_
 refine Rg (U 3 Z (Nx (TC.seq (TC.seq ?_))))
 obtain ⟨r1, hr1, h⟩ := bnd h
 obtain ⟨r2, hr2, h⟩ := bnd h
 refine TC.draw0 14 [10, 11, 12, 13, 14, 15, 16, 17, 18, 19, 20, 21, 22, 23] [.ptr 0 2, I a1.At, .ptr 1 2, I a2.At, I r1, .ptr 0 0, I a1.Crew, .ptr 1 0, I a2.Crew, I r2, .ptr 0 1, I a1.No, .ptr 1 1, I a2.No] draws Z Z Z ?_ ?_
 ·refine ov (ov (ov (ov (Oq.c ?_ (ov (ov (ov (ov (Oq.c ?_ (ov (ov (ov (ov (Oq.n))))))))))))))
  ·refine Om Z (sD 1 (sD 3 sN)) ?_
   exact Pc [] Z (OpC.fn call41 Z Z Z) (k_l _ _ _ _ hr1) Z Wp
  ·refine Om Z (sD 6 (sD 8 sN)) ?_
   exact Pc [] Z (OpC.fn call41 Z Z Z) (k_l _ _ _ _ hr2) Z Wp
 refine Bd h fun r3 hr3 h => Pc [] Z (OpC.fn call41 Z Z Z) (k_l _ _ _ _ hr3) Z ?_
 refine vH (QX (xs := [.tmp 14, .tmp 19, .tmp 24]) (es := List.map (encI .i64) [r1, r2, r3]) QK Z Z Z Z Z ⟨Z, Z, Z, trivial⟩ Z Z) ?_
 refine FE Z (Bd h fun r4 hr4 h => Pc [] Z (OpC.fn call40 Z Z Z) (k_w _ _ _ hr4) Z (U 1 Z (Nx (Rg (U 2 Z (Nx (Cn Z h (fun hc5 h => ?_) (fun hc5 h => ?_))))))))
 ·refine Rg (U 2 Z (Nx (RtR ?_)))
  obtain rfl := Oi h
  exact R1 4 Z (Lr [])
 refine QU (Rg (U 1 Z (Bd h fun r6 hr6 h => ?_)))
 refine Qe [] (OpC.fn call50 Z Z Z) (k_ab _ _ _ hr6) ?_
 rintro _ _ ⟨rfl, rfl⟩
 refine FE Z (U 5 Z (Nx (Rg (U 1 Z (Bd h fun r7 hr7 h => ?_)))))
 refine Qe [] (OpC.fn call50 Z Z Z) (k_ab _ _ _ hr7) ?_
 rintro _ _ ⟨rfl, rfl⟩
 refine FE Z (U 5 Z (Nx (Rg (U 2 Z (Bd h fun r8 hr8 h => ?_)))))
 refine Qh (OpC.fn call51 rfl rfl rfl) (LookL.cons rfl (.inr ⟨_, _, _, _, _, rfl, rfl, List.length_map .., rfl⟩) (LookL.cons rfl (.inr ⟨_, _, _, _, _, rfl, rfl, List.length_map .., rfl⟩) LookL.nil)) (k_fp _ _ _ _ hr8) (by rintro _ _ ⟨rfl, rfl⟩; rfl) ?_
 rintro _ _ ⟨rfl, rfl⟩
 refine FE Z (U 1 Z (Nx (TC.ret ?_)))
 obtain rfl := Oi h
 exact R1 4 Z (Lr [])
def F_do (n : Nat) (a1 : List (Int × Fact)) : Option Unit :=
  some ()
theorem k_do (n : Nat) (a1 : List (Int × Fact)) (r : Unit) (h : F_do n a1 = some r) :
    C prog 61 [.map 0] [.map (menc (fun x => A.int .i64 x) (fun x => A.agg (Fact.c x)) a1)] (fun a H => a = .fn (.func 129) [] [.ptr 1 0] ∧ H = [.map (menc (fun x => A.int .i64 x) (fun x => A.agg (Fact.c x)) a1), .cells 98 [.map 0]]) := by
 refine Qd func61 Z Z Z ?_
 refine Rg (U 2 Z (Nx (Rg (U 2 Z (Nx (TC.ret ?_))))))
 obtain rfl := Oi h
 exact R1 2 Z (Lr [0, 1])
def F_bp (n : Nat) (a1 : List (Int × Fact)) : Option (List Int) :=
  anyK (List.map Prod.fst a1) fun p1 => (sortI p1).bind fun l4 => some l4
theorem k_bp (n : Nat) (a1 : List (Int × Fact)) (r : List Int) (h : F_bp n a1 = some r) :
    C prog 60 [.fn (.func 129) [] [.ptr 0 0]] [.cells 98 [.map 1], .map (menc (fun x => A.int .i64 x) (fun x => A.agg (Fact.c x)) a1)] (fun a H => a = .osl 2 0 r.length 1 ∧ H = [.dead, .fmap (menc (fun x => A.int .i64 x) (fun x => A.agg (Fact.c x)) a1), .row 3 1 (List.map (encI .i64) r)]) := by
 refine Qd func60 Z Z Z ?_
 refine Rg (U 1 Z (Nx (Rg (U 1 Z ?_))))
 refine WO.le (Qg8 (i := 1) Z) ?_
 refine Qgl (H := [.cells 98 [.map 1], .fmap (menc (fun x => A.int .i64 x) (fun x => A.agg (Fact.c x)) a1)]) Z ?_
 obtain ⟨h3, h⟩ := Qg5 h
 refine Qe [0, 1] (OpC.fn call127 Z Z Z) (Qjw _ h3) ?_
 rintro _ _ ⟨p1, h2, rfl, rfl⟩
 have h := h p1 h2
 refine FE Z (U 1 Z (Nx (Rg (U 1 Z (Bd h fun l4 hl4 h => ?_)))))
 refine Qe [2] (OpC.fn call128 Z Z Z) (QkW QdK hl4) ?_
 rintro _ _ ⟨rfl, rfl⟩
 refine FE Z ?_
 refine WO.le (QY (s := 3) Z (congrArg (fun n => A.osl 2 0 n 1) (Qbm hl4))) ?_
 refine WO.le (QY (s := 5) Z (congrArg (fun n => A.osl 2 0 n 1) (Qbm hl4))) ?_
 refine WO.le (QY (s := 6) Z (congrArg (fun n => A.osl 2 0 n 1) (Qbm hl4))) ?_
 refine Nx (Rg (U 2 Z (Nx (TC.ret ?_))))
 obtain rfl := Oi h
 exact R1 2 Z (Lr [0, 1, 2])
def F_fr (n : Nat) (a1 : List (Int × Fact)) (r2 : List Int) (s15 : (List Fact) × Int) : Option (Ctl ((List Fact) × Int) (List Fact)) :=
  (bif decide (s15.2 < (r2.length : Int)) then (idx r2 s15.2).bind fun x19 => (some (mgetD a1 x19 z_Fact)).bind fun v20 => (app s15.1 [v20]).bind fun l21 => some (.cont (l21, IntKind.i64.wrap (s15.2 + 1))) else some (.done s15.1))
def F_be (n : Nat) (a1 : List (Int × Fact)) : Option (List Fact) :=
  (F_do n a1).bind fun r1 => (F_bp n a1).bind fun r2 => (iter (F_fr n a1 r2) n ([], 0) : Option (List Fact)).bind fun b12 => some b12
theorem k_be (n : Nat) (a1 : List (Int × Fact)) (r : List Fact) (h : F_be n a1 = some r) :
    C prog 34 [.map 0] [.map (menc (fun x => A.int .i64 x) (fun x => A.agg (Fact.c x)) a1)] (fun a H => a = .osl 1 0 r.length 57 ∧ H = [.fmap (menc (fun x => A.int .i64 x) (fun x => A.agg (Fact.c x)) a1), .row 81 57 (List.map Fact.c r)]) := by
 refine Qd func34 Z Z Z ?_
 refine Rg (U 1 Z (Nx (TC.seq (Rg (U 1 Z (Bd h fun r1 hr1 h => ?_))))))
 refine Qe [0] (OpC.fn call61 Z Z Z) (k_do _ _ _ hr1) ?_
 rintro _ _ ⟨rfl, rfl⟩
 refine FE Z (Bd h fun r2 hr2 h => ?_)
 refine Qe [1, 0] (OpC.fn call60 Z Z Z) (k_bp _ _ _ hr2) ?_
 rintro _ _ ⟨rfl, rfl⟩
 refine FE Z (U 2 Z (Nx (Bd h fun b12 h13 h => ?_)))
 refine TC.cut ([(2, .osl 1 0 b12.length 57)]) ([.fmap (menc (fun x => A.int .i64 x) (fun x => A.agg (Fact.c x)) a1), .row 81 57 (List.map Fact.c b12)]) ?_ (fun env H hle => ?_)
 ·refine TC.block ?_
  refine TC.loop (E := fun s15 => [(0, .map 0), (2, .osl 1 0 s15.1.length 57), (7, .osl 2 0 r2.length 1), (8, I (r2.length : Int)), (9, I s15.2)]) (Hp := fun s15 => [.fmap (menc (fun x => A.int .i64 x) (fun x => A.agg (Fact.c x)) a1), .row 81 57 (List.map Fact.c s15.1), .row 3 1 (List.map (encI .i64) r2)]) h13 ?_ ?_
  ·refine Le.trans (Le.phantom (s := 2) (k := 57) (t := 81) (Nat.le_of_ble_eq_true Z) Z) ?_
   exact Lr [0, 3, 2]
  intro s15 d16 h17 hb14
  refine Rg (U 1 Z (Nx (TC.seq (CnS Z h17 (fun hc18 h17 => ?_) (fun hc18 h17 => ?_)))))
  ·refine ExX (Qz h17 ?_)
   obtain rfl := hb14 _ (Oi h17).symm
   exact QQ (cutN (Lr [0, 1]))
  refine QU (TC.seq (TC.block (Rg (Bd h17 fun x19 hx19 h17 => ?_))))
  refine vX (.ptr 2 (Int.toNat s15.2 * 1)) (Yo hx19 Z runUnderlying48 sizeOf3) ?_
  refine vX (I x19) (OpV.load Z isAgg3 Z (QL hx19)) ?_
  refine U 1 Z (Nx (TC.region (U 3 Z (Bd h17 fun v20 hv20 h17 => ?_))))
  refine vX (.agg (Fact.c v20)) (QhK (ev := (fun x => A.agg (Fact.c x))) (z0 := z_Fact) (k := x19) (l := a1) Qa7 hv20 underlying98 zeroValue81 (zrC Z)) ?_
  refine vH (OpH.lit (xs := [.tmp 16]) (es := List.map Fact.c [v20]) Qbg Z Z Z Z Z ⟨Z, trivial⟩ Z Z) ?_
  refine FE Z (Bd h17 fun l21 hl21 h17 => ?_)
  refine vH (QN (e := Fact.c) hl21 Qbg runUnderlying34 (Qay (i := 3))) ?_
  exact FE Z (U 1 Z (WO.nil (QD (Qf (TC.region (U 2 Z (WO.nil (Qu h17 (Lr [0, 4, 2])))))))))
 refine Qf (TC.le hle (Rg (U 2 Z (Nx (TC.ret ?_)))))
 obtain rfl := Oi h
 exact R1 2 Z (Lr [0, 1])
def F_fj (n : Nat) (a1 : Course) (a2 : List Fact) (s113 : (List (Int × Fact)) × Int) : Option (Ctl ((List (Int × Fact)) × Int) (List (Int × Fact))) :=
  (bif decide (s113.2 < (a2.length : Int)) then ((idx a2 s113.2).bind fun x144 => ((bif (x144.Kind != 1) then some true else (F_z n x144).bind fun r152 => (bif (r152 != 0) then some true else (bif decide ((a1.Distances.length : Int) ≤ x144.Starter.Distance) then some true else some (decide ((a1.Waves.length : Int) ≤ x144.Starter.Wave))))) : Option Bool).bind fun b149 => (bif b149 then some s113.1 else (some (mgetD s113.1 x144.Starter.Bib z_Fact)).bind fun v156 => ((bif (!(mhas s113.1 x144.Starter.Bib)) then some true else (F_ci n x144 v156).bind fun r162 => some (decide (r162 < 0))) : Option Bool).bind fun b159 => ((bif b159 then (some (mset s113.1 x144.Starter.Bib x144)).bind fun m168 => some m168 else some s113.1) : Option (List (Int × Fact))).bind fun b165 => some b165) : Option (List (Int × Fact))).bind fun b142 => some (.cont (b142, IntKind.i64.wrap (s113.2 + 1))) else some (.done s113.1))
def F_cd (n : Nat) (r170 : List Fact) (s187 : (List Starter) × (List (Int × Bool)) × Int) : Option (Ctl ((List Starter) × (List (Int × Bool)) × Int) (Ctl (List Starter) ((List Starter) × Int))) :=
  (bif decide (s187.2.2 < (r170.length : Int)) then (idx r170 s187.2.2).bind fun x191 => (some (mgetD s187.2.1 x191.Starter.Chip false)).bind fun v192 => (bif v192 then some (.done (.done ([], 180))) else (some (mset s187.2.1 x191.Starter.Chip true)).bind fun m194 => (app s187.1 [x191.Starter]).bind fun l195 => some (.cont (l195, m194, IntKind.i64.wrap (s187.2.2 + 1)))) else some (.done (.cont s187.1)))
def F_o (n : Nat) (a1 : Course) (a2 : List Fact) : Option ((List Starter) × Int) :=
  (F_v n a1).bind fun r1 => (bif (r1 != 0) then some ([], r1) else (iter (F_fj n a1 a2) n ([], 0) : Option (List (Int × Fact))).bind fun b110 => (bif decide (4000 < (b110.length : Int)) then some ([], 2) else (F_be n b110).bind fun r170 => (iter (F_cd n r170) n ([], [], 0) : Option (Ctl (List Starter) ((List Starter) × Int))).bind fun b184 => match b184 with | .cont sb184 => (some (sb184, 0)) | .done sb184 => some sb184))
theorem k_o (n : Nat) (a1 : Course) (a2 : List Fact) (r : (List Starter) × Int) (h : F_o n a1 a2 = some r) :
    C prog 13 [.agg (Course.c a1), .rsl 57 (List.map Fact.c a2)] [] (fun a H => a = .tup [.osl 0 0 r.1.length 8, I r.2] ∧ H = [.row 50 8 (List.map Starter.c r.1)]) := by
 refine Qd func13 Z Z Z ?_
 refine Rg (U 3 Z (Nx (TC.seq (Rg (U 1 Z (Bd h fun r1 hr1 h => Pc [] Z (OpC.fn call33 Z Z Z) (k_v _ _ _ hr1) Z (U 1 Z (Nx (Rg (U 2 Z (Nx (Cn Z h (fun hc2 h => ?_) (fun hc2 h => ?_)))))))))))))
 ·refine Rg (U 3 Z (Nx (RtR ?_)))
  obtain rfl := Oi h
  refine R2 4 5 Z Z ?_
  refine Le.trans (Le.phantom (s := 4) (k := 8) (t := 50) (Nat.le_of_ble_eq_true Z) Z) ?_
  exact Lr [1]
 refine QU (Rg ?_)
 refine vH QT ?_
 refine FE Z (U 1 Z (Nx (TC.seq (Rg (U 1 Z (LnM runUnderlying34 Z (U 1 Z (Nx (Bd h fun b110 h111 h => ?_)))))))))
 refine TC.cut ([(4, .nils), (7, .map 0)]) ([.map (menc (fun x => A.int .i64 x) (fun x => A.agg (Fact.c x)) b110)]) ?_ (fun env H hle => ?_)
 ·refine TC.block ?_
  refine TC.loop (E := fun s113 => [(2, .ptr 0 0), (4, .nils), (7, .map 1), (22, .rsl 57 (List.map Fact.c a2)), (23, I (a2.length : Int)), (24, I s113.2)]) (Hp := fun s113 => [.cells 33 (Course.c a1), .map (menc (fun x => A.int .i64 x) (fun x => A.agg (Fact.c x)) s113.1)]) h111 ?_ ?_
  ·exact Lr [0, 1]
  intro s113 d114 h115 hb112
  refine Rg (U 1 Z (Nx (TC.seq (CnS Z h115 (fun hc116 h115 => ?_) (fun hc116 h115 => ?_)))))
  ·refine ExX (Qz h115 ?_)
   obtain rfl := hb112 _ (Oi h115).symm
   exact QQ (cutN (Lr [1]))
  refine QU (TC.seq (Bd h115 fun b142 h143 h115 => ?_))
  refine TC.cut ([(2, .ptr 0 0), (4, .nils), (7, .map 1), (22, .rsl 57 (List.map Fact.c a2)), (23, I (a2.length : Int)), (24, I s113.2)]) ([.cells 33 (Course.c a1), .map (menc (fun x => A.int .i64 x) (fun x => A.agg (Fact.c x)) b142)]) ?_ (fun env H hle => ?_)
  ·refine TC.block (Rg (Bd h143 fun x144 hx144 h143 => Ix hx144 runUnderlying34 sizeOf81 Z (U 3 Z (Nx (Rg (U 4 Z (Nx (TC.seq (TC.seq (Bd h143 fun b149 h150 h143 => ?_))))))))))
   refine TC.cut ([(2, .ptr 0 0), (4, .nils), (7, .map 1), (9, .ptr 2 0), (10, .ptr 3 0), (22, .rsl 57 (List.map Fact.c a2)), (23, I (a2.length : Int)), (24, I s113.2), (53, .bool b149)]) ([.cells 33 (Course.c a1), .map (menc (fun x => A.int .i64 x) (fun x => A.agg (Fact.c x)) s113.1), .cells 81 (Fact.c x144), .cells 50 (Starter.c x144.Starter)]) ?_ (fun env H hle => ?_)
   ·refine TC.region (U 4 Z (If h150 (fun hg151 h150 => ?_) (fun hg151 h150 => ?_)))
    ·refine KF hg151 Z (KF hg151 Z (KF hg151 Z (Pk hg151 Z (U 16 Z (WO.nil ?_)))))
     obtain rfl := Oi h150
     exact cutN (Lr [0, 1, 2, 3])
    ·refine vX (.agg (Fact.c x144)) (Qi Z isAgg81 sizeOf81 Z (Pts.cells Z Z) Z Z) ?_ (gT hg151)
     refine Bd h150 fun r152 hr152 h150 => Pc [] Z (OpC.fn call26 Z Z Z) (k_z _ _ _ hr152) (hg := (gT hg151)) Z (Sg (gT hg151) Z (Pk hg151 Z (U 1 Z (If h150 (fun hg153 h150 => ?_) (fun hg153 h150 => ?_)))))
     ·refine KF hg153 Z (KF hg153 Z (KF hg153 Z (KF hg153 Z (KF hg153 Z (KF hg153 Z (Pk hg153 Z (U 8 Z (WO.nil ?_))))))))
      obtain rfl := Oi h150
      exact cutN (Lr [0, 1, 2, 3])
     ·refine QG (gT hg153) QgU Z (QO (gT hg153) isAgg3 Z (QG (gT hg153) QaF Z (QO (gT hg153) isAgg24 Z ?_)))
      refine vX (I (a1.Distances.length : Int)) (Qk (e := Distance.c) (l := a1.Distances) runUnderlying24) ?_ (gT hg153)
      refine Sg (gT hg153) Z (Pk hg153 Z (U 1 Z (If h150 (fun hg154 h150 => ?_) (fun hg154 h150 => ?_))))
      ·refine KF hg154 Z (KF hg154 Z (KF hg154 Z (KF hg154 Z (KF hg154 Z (KF hg154 Z (Pk hg154 Z (WO.nil ?_)))))))
       obtain rfl := Oi h150
       exact cutN (Lr [0, 1, 2, 3])
      ·refine QG (gT hg154) QgT Z (QO (gT hg154) isAgg3 Z (QG (gT hg154) QbW Z (QO (gT hg154) isAgg25 Z ?_)))
       refine vX (I (a1.Waves.length : Int)) (Qk (e := Wave.c) (l := a1.Waves) runUnderlying25) ?_ (gT hg154)
       refine Sg (gT hg154) Z (Pk hg154 Z (WO.nil ?_))
       obtain rfl := Oi h150
       exact cutN (Lr [0, 1, 2, 3])
   refine Qf (TC.le hle (Cn Z h143 (fun hc155 h143 => ?_) (fun hc155 h143 => ?_)))
   ·refine ExX (QQ ?_)
    obtain rfl := Oi h143
    exact cutN (Lr [0, 1])
   refine QU (Rg (U 3 Z (Bd h143 fun v156 hv156 h143 => ?_)))
   refine vX (.tup [.agg (Fact.c v156), .bool (mhas s113.1 x144.Starter.Bib)]) (Qgq (ev := (fun x => A.agg (Fact.c x))) (z0 := z_Fact) (k := x144.Starter.Bib) (l := s113.1) Qa7 hv156 underlying98 zeroValue81 (zrC Z)) ?_
   refine U 6 Z (Nx (TC.seq (Bd h143 fun b159 h160 h143 => ?_)))
   refine TC.cut ([(2, .ptr 0 0), (4, .nils), (7, .map 1), (9, .ptr 2 0), (10, .ptr 3 0), (22, .rsl 57 (List.map Fact.c a2)), (23, I (a2.length : Int)), (24, I s113.2), (68, .bool b159)]) ([.cells 33 (Course.c a1), .map (menc (fun x => A.int .i64 x) (fun x => A.agg (Fact.c x)) s113.1), .cells 81 (Fact.c x144), .cells 50 (Starter.c x144.Starter)]) ?_ (fun env H hle => ?_)
   ·refine TC.region (U 3 Z (If h160 (fun hg161 h160 => ?_) (fun hg161 h160 => ?_)))
    ·refine KF hg161 Z (KF hg161 Z (KF hg161 Z (KF hg161 Z (Pk hg161 Z (WO.nil ?_)))))
     obtain rfl := Oi h160
     exact cutN (Lr [0, 1, 2, 3])
    ·refine vX (.agg (Fact.c x144)) (Qi Z isAgg81 sizeOf81 Z (Pts.cells Z Z) Z Z) ?_ (gT hg161)
     refine vX (.agg (Fact.c v156)) (Qi Z isAgg81 sizeOf81 Z (Pts.cells Z Z) Z Z) ?_ (gT hg161)
     refine Bd h160 fun r162 hr162 h160 => Pc [] Z (OpC.fn call27 Z Z Z) (k_ci _ _ _ _ hr162) (hg := (gT hg161)) Z (Sg (gT hg161) Z (Pk hg161 Z (WO.nil ?_)))
     obtain rfl := Oi h160
     exact cutN (Lr [0, 1, 2, 3])
   refine Qf (TC.le hle (Bd h143 fun b165 h166 h143 => ?_))
   refine TC.cut ([(2, .ptr 0 0), (4, .nils), (7, .map 1), (22, .rsl 57 (List.map Fact.c a2)), (23, I (a2.length : Int)), (24, I s113.2)]) ([.cells 33 (Course.c a1), .map (menc (fun x => A.int .i64 x) (fun x => A.agg (Fact.c x)) b165)]) ?_ (fun env H hle => ?_)
   ·refine Cn Z h166 (fun hc167 h166 => ?_) (fun hc167 h166 => ?_)
    ·refine TC.region (U 4 Z (Bd h166 fun m168 hm168 h166 => ?_))
     refine vU (Q8 (ev := (fun x => A.agg (Fact.c x))) (k := x144.Starter.Bib) (v := x144) (l := s113.1) Qa7 hm168 Z underlying98) ?_
     refine FE Z (WO.nil ?_)
     obtain rfl := Oi h166
     exact cutN (Lr [0, 1])
    refine TC.skip ?_
    obtain rfl := Oi h166
    exact cutN (Lr [0, 1])
   refine QD ?_
   obtain rfl := Oi h143
   exact cutN (Le.trans hle (Lr [0, 1]))
  exact Qf (TC.le hle (TC.region (U 2 Z (WO.nil (Qu h115 (Lr [0, 1]))))))
 refine Qf (TC.le hle (TC.seq (Rg (U 1 Z ?_))))
 refine vX (I (b110.length : Int)) (Qa4 (l := b110) underlying98 Z) ?_
 refine U 1 Z (Nx (Cn Z h (fun hc169 h => ?_) (fun hc169 h => ?_)))
 ·refine Rg (U 2 Z (Nx (RtR ?_)))
  obtain rfl := Oi h
  refine R2 4 5 Z Z ?_
  refine Le.trans (Le.phantom (s := 4) (k := 8) (t := 50) (Nat.le_of_ble_eq_true Z) Z) ?_
  exact Lr [1]
 refine QU (Rg ?_)
 refine vH QT ?_
 refine FE Z (U 1 Z (Nx (TC.seq (Rg (U 1 Z (Bd h fun r170 hr170 h => ?_))))))
 refine Qe [0] (OpC.fn call34 Z Z Z) (k_be _ _ _ hr170) ?_
 rintro _ _ ⟨rfl, rfl⟩
 refine FE Z (U 2 Z (Nx (Bd h fun b184 h185 h => ?_)))
 refine Qy (b := b184) (fun sb184 => [(4, .osl 0 0 sb184.length 8)]) (fun sb184 => [.row 50 8 (List.map Starter.c sb184)]) ?_ (fun sb184 env H hbe hle => ?_)
 ·refine TC.block ?_
  refine TC.loop (E := fun s187 => [(4, .osl 0 0 s187.1.length 8), (13, .map 1), (79, .osl 2 0 r170.length 57), (80, I (r170.length : Int)), (81, I s187.2.2)]) (Hp := fun s187 => [.row 50 8 (List.map Starter.c s187.1), .map (menc (fun x => A.int .i64 x) A.bool s187.2.1), .row 81 57 (List.map Fact.c r170)]) h185 ?_ ?_
  ·refine Le.trans (Le.phantom (s := 4) (k := 8) (t := 50) (Nat.le_of_ble_eq_true Z) Z) ?_
   exact Lr [3, 1, 2]
  intro s187 d188 h189 hb186
  refine Rg (U 1 Z (Nx (TC.seq (CnS Z h189 (fun hc190 h189 => ?_) (fun hc190 h189 => ?_)))))
  ·refine ExX (Qz h189 ?_)
   obtain rfl := hb186 _ (Oi h189).symm
   exact QQ (Qx Z (Lr [0]))
  refine QU (TC.seq (TC.block (Rg (Bd h189 fun x191 hx191 h189 => ?_))))
  refine vX (.ptr 2 (Int.toNat s187.2.2 * 57)) (Yo hx191 Z runUnderlying34 sizeOf81) ?_
  refine vX (.agg (Fact.c x191)) (Qi Z isAgg81 sizeOf81 Z (QL hx191) Z Z) ?_
  refine U 2 Z (Nx (TC.seq (Rg (U 4 Z (Bd h189 fun v192 hv192 h189 => ?_)))))
  refine vX (.bool v192) (Q6 (ev := A.bool) (z0 := false) (k := x191.Starter.Chip) (l := s187.2.1) Qa7 hv192 underlying57 zeroValue4 ZR.bool) ?_
  refine Nx (Cn Z h189 (fun hc193 h189 => ?_) (fun hc193 h189 => ?_))
  ·refine Rg (U 2 Z (Nx (RtR (Qm (Ql (QV h189 ?_))))))
   obtain rfl := hb186 _ (Oi h189).symm
   refine Qm (QF (Ql ?_))
   obtain rfl := Oi h
   refine R2 4 5 Z Z ?_
   refine Le.trans (Le.phantom (s := 4) (k := 8) (t := 50) (Nat.le_of_ble_eq_true Z) Z) ?_
   exact Lr [4]
  refine QU (Rg (U 4 Z (Bd h189 fun m194 hm194 h189 => ?_)))
  refine vU (Q8 (ev := A.bool) (k := x191.Starter.Chip) (v := true) (l := s187.2.1) Qa7 hm194 Z underlying57) ?_
  refine FE Z (Nx (TC.region (U 3 Z ?_)))
  refine vH (OpH.lit (xs := [.tmp 96]) (es := List.map Starter.c [x191.Starter]) Qk7 Z Z Z Z Z ⟨Z, trivial⟩ Z Z) ?_
  refine FE Z (Bd h189 fun l195 hl195 h189 => ?_)
  refine vH (QN (e := Starter.c) hl195 Qk7 runUnderlying38 (Qay (i := 4))) ?_
  exact FE Z (U 1 Z (WO.nil (QD (Qf (TC.region (U 2 Z (WO.nil (Qu h189 (Lr [5, 1, 2])))))))))
 subst hbe
 refine Qf (TC.le hle (Rg (U 3 Z (Nx (TC.ret ?_)))))
 obtain rfl := Oi h
 exact R2 4 5 Z Z (Lr [0])
def F_fa (n : Nat) (a1 : List (Pair × Bool)) : Option Unit :=
  some ()
theorem k_fa (n : Nat) (a1 : List (Pair × Bool)) (r : Unit) (h : F_fa n a1 = some r) :
    C prog 38 [.map 0] [.map (menc (fun x => A.agg (Pair.c x)) A.bool a1)] (fun a H => a = .fn (.func 66) [] [.ptr 1 0] ∧ H = [.map (menc (fun x => A.agg (Pair.c x)) A.bool a1), .cells 103 [.map 0]]) := by
 refine Qd func38 Z Z Z ?_
 refine Rg (U 2 Z (Nx (Rg (U 2 Z (Nx (TC.ret ?_))))))
 obtain rfl := Oi h
 exact R1 2 Z (Lr [0, 1])
def F_ak (n : Nat) (a1 : Pair) (a2 : Pair) : Option Int :=
  (F_l n a1.A a2.A).bind fun r1 => (F_l n a1.B a2.B).bind fun r2 => (F_w n [r1, r2]).bind fun r3 => some r3
theorem k_ak (n : Nat) (a1 : Pair) (a2 : Pair) (r : Int) (h : F_ak n a1 a2 = some r) :
    C prog 39 [.agg (Pair.c a1), .agg (Pair.c a2)] [] (fun a H => a = I r ∧ H = []) := by
 refine Qd func39 Z Z Z ?_
 refine Rg (U 3 Z (Nx (TC.seq ?_)))
 obtain ⟨r1, hr1, h⟩ := bnd h
 refine TC.draw0 9 [5, 6, 7, 8, 9, 10, 11, 12, 13] [.ptr 0 0, I a1.A, .ptr 1 0, I a2.A, I r1, .ptr 0 1, I a1.B, .ptr 1 1, I a2.B] draws Z Z Z ?_ ?_
 ·refine ov (ov (ov (ov (Oq.c ?_ (ov (ov (ov (ov (Oq.n)))))))))
  ·refine Om Z (sD 1 (sD 3 sN)) ?_
   exact Pc [] Z (OpC.fn call41 Z Z Z) (k_l _ _ _ _ hr1) Z Wp
 refine Bd h fun r2 hr2 h => Pc [] Z (OpC.fn call41 Z Z Z) (k_l _ _ _ _ hr2) Z ?_
 refine vH (QX (xs := [.tmp 9, .tmp 14]) (es := List.map (encI .i64) [r1, r2]) QK Z Z Z Z Z ⟨Z, Z, trivial⟩ Z Z) ?_
 refine FE Z (Bd h fun r3 hr3 h => Pc [] Z (OpC.fn call40 Z Z Z) (k_w _ _ _ hr3) Z (U 1 Z (Nx (TC.ret ?_))))
 obtain rfl := Oi h
 exact R1 4 Z (Lr [])
def F_aj (n : Nat) (a1 : List (Pair × Bool)) : Option (List Pair) :=
  anyK (List.map Prod.fst a1) fun p1 => (sortF (fun x y => F_ak n x y) p1).bind fun l4 => some l4
theorem k_aj (n : Nat) (a1 : List (Pair × Bool)) (r : List Pair) (h : F_aj n a1 = some r) :
    C prog 37 [.fn (.func 66) [] [.ptr 0 0], .fn (.func 39) [] []] [.cells 103 [.map 1], .map (menc (fun x => A.agg (Pair.c x)) A.bool a1)] (fun a H => a = .osl 2 0 r.length 2 ∧ H = [.dead, .fmap (menc (fun x => A.agg (Pair.c x)) A.bool a1), .row 59 2 (List.map Pair.c r)]) := by
 refine Qd func37 Z Z Z ?_
 refine Rg (U 1 Z (Nx (Rg (U 1 Z ?_))))
 refine WO.le (Qg8 (i := 1) Z) ?_
 refine Qgl (H := [.cells 103 [.map 1], .fmap (menc (fun x => A.agg (Pair.c x)) A.bool a1)]) Z ?_
 obtain ⟨h3, h⟩ := Qg5 h
 refine Qe [0, 1] (OpC.fn call64 Z Z Z) (QlF _ h3) ?_
 rintro _ _ ⟨p1, h2, rfl, rfl⟩
 have h := h p1 h2
 refine FE Z (U 1 Z (Nx (Rg (U 2 Z (Bd h fun l4 hl4 h => ?_)))))
 refine Qe [2] (OpC.fn call65 Z Z Z) (QkV (enc := Pair.c) Qev hl4 (fun x y c h => k_ak n x y c h) isAgg59 sizeOf59 call39 (fun _ => rfl) Z) ?_
 rintro _ _ ⟨rfl, rfl⟩
 refine FE Z ?_
 refine WO.le (QY (s := 5) Z (congrArg (fun n => A.osl 2 0 n 2) (Qcc hl4))) ?_
 refine WO.le (QY (s := 7) Z (congrArg (fun n => A.osl 2 0 n 2) (Qcc hl4))) ?_
 refine WO.le (QY (s := 8) Z (congrArg (fun n => A.osl 2 0 n 2) (Qcc hl4))) ?_
 refine Nx (Rg (U 2 Z (Nx (TC.ret ?_))))
 obtain rfl := Oi h
 exact R1 4 Z (Lr [0, 1, 2])
def F_fg (n : Nat) (r1 : (List Starter) × Int) (s13 : (List (Int × Bool)) × Int) : Option (Ctl ((List (Int × Bool)) × Int) (List (Int × Bool))) :=
  (bif decide (s13.2 < (r1.1.length : Int)) then (idx r1.1 s13.2).bind fun x17 => (some (mset s13.1 x17.Bib true)).bind fun m18 => some (.cont (m18, IntKind.i64.wrap (s13.2 + 1))) else some (.done s13.1))
def F_ff (n : Nat) (a2 : List Fact) (b10 : List (Int × Bool)) (s67 : (List (Pair × Bool)) × Int) : Option (Ctl ((List (Pair × Bool)) × Int) (List (Pair × Bool))) :=
  (bif decide (s67.2 < (a2.length : Int)) then (idx a2 s67.2).bind fun x71 => ((bif (x71.Kind == 7) then (F_z n x71).bind fun r81 => (bif (r81 == 0) then (some (mgetD b10 x71.Pair.A false)).bind fun v83 => (bif v83 then (some (mgetD b10 x71.Pair.B false)).bind fun v85 => some v85 else some false) else some false) else some false) : Option Bool).bind fun b78 => ((bif b78 then (some (mset s67.1 x71.Pair true)).bind fun m91 => some m91 else some s67.1) : Option (List (Pair × Bool))).bind fun b88 => some (.cont (b88, IntKind.i64.wrap (s67.2 + 1))) else some (.done s67.1))
def F_u (n : Nat) (a1 : Course) (a2 : List Fact) : Option ((List Pair) × Int) :=
  (F_o n a1 a2).bind fun r1 => (bif (r1.2 != 0) then some ([], r1.2) else (iter (F_fg n r1) n ([], 0) : Option (List (Int × Bool))).bind fun b10 => (iter (F_ff n a2 b10) n ([], 0) : Option (List (Pair × Bool))).bind fun b64 => (bif decide (16 < (b64.length : Int)) then some ([], 2) else (F_fa n b64).bind fun r93 => (F_aj n b64).bind fun r94 => some (r94, 0)))
theorem k_u (n : Nat) (a1 : Course) (a2 : List Fact) (r : (List Pair) × Int) (h : F_u n a1 a2 = some r) :
    C prog 15 [.agg (Course.c a1), .rsl 57 (List.map Fact.c a2)] [] (fun a H => a = .tup [.osl 0 0 r.1.length 2, I r.2] ∧ H = [.row 59 2 (List.map Pair.c r.1)]) := by
 refine Qd func15 Z Z Z ?_
 refine Rg (U 3 Z (Nx (Rg (U 2 Z (Bd h fun r1 hr1 h => ?_)))))
 refine Qe [] (OpC.fn call13 Z Z Z) (k_o _ _ _ _ hr1) ?_
 rintro _ _ ⟨rfl, rfl⟩
 refine FE Z (U 5 Z (Nx (TC.seq (Rg (U 2 Z (Nx (Cn Z h (fun hc2 h => ?_) (fun hc2 h => ?_))))))))
 ·refine Rg (U 3 Z (Nx (RtR ?_)))
  obtain rfl := Oi h
  refine R2 4 5 Z Z ?_
  refine Le.trans (Le.phantom (s := 4) (k := 2) (t := 59) (Nat.le_of_ble_eq_true Z) Z) ?_
  exact Lr [2]
 refine QU (Rg ?_)
 refine vH QT ?_
 refine FE Z (U 1 Z (Nx (TC.seq (Rg (U 3 Z (Nx (Bd h fun b10 h11 h => ?_)))))))
 refine TC.cut ([(1, .rsl 57 (List.map Fact.c a2)), (7, .map 0)]) ([.map (menc (fun x => A.int .i64 x) A.bool b10)]) ?_ (fun env H hle => ?_)
 ·refine TC.block ?_
  refine TC.loop (E := fun s13 => [(1, .rsl 57 (List.map Fact.c a2)), (7, .map 0), (23, .osl 1 0 r1.1.length 8), (24, I (r1.1.length : Int)), (25, I s13.2)]) (Hp := fun s13 => [.map (menc (fun x => A.int .i64 x) A.bool s13.1), .row 50 8 (List.map Starter.c r1.1)]) h11 ?_ ?_
  ·exact Lr [2, 1]
  intro s13 d14 h15 hb12
  refine Rg (U 1 Z (Nx (TC.seq (CnS Z h15 (fun hc16 h15 => ?_) (fun hc16 h15 => ?_)))))
  ·refine ExX (Qz h15 ?_)
   obtain rfl := hb12 _ (Oi h15).symm
   exact QQ (cutN (Lr [0]))
  refine QU (TC.seq (TC.block (Rg (Bd h15 fun x17 hx17 h15 => ?_))))
  refine vX (.ptr 1 (Int.toNat s13.2 * 8)) (Yo hx17 Z runUnderlying38 sizeOf50) ?_
  refine vX (.agg (Starter.c x17)) (Qi Z isAgg50 sizeOf50 Z (QL hx17) Z Z) ?_
  refine U 2 Z (Nx (TC.region (U 3 Z (Bd h15 fun m18 hm18 h15 => ?_))))
  refine vU (Q8 (ev := A.bool) (k := x17.Bib) (v := true) (l := s13.1) Qa7 hm18 Z underlying57) ?_
  exact FE Z (WO.nil (QD (Qf (TC.region (U 2 Z (WO.nil (Qu h15 (Lr [0, 1]))))))))
 refine Qf (TC.le hle (Rg ?_))
 refine vH QT ?_
 refine FE Z (U 1 Z (Nx (TC.seq (Rg (U 1 Z (LnM runUnderlying34 Z (U 1 Z (Nx (Bd h fun b64 h65 h => ?_)))))))))
 refine TC.cut ([(10, .map 0)]) ([.map (menc (fun x => A.agg (Pair.c x)) A.bool b64)]) ?_ (fun env H hle => ?_)
 ·refine TC.block ?_
  refine TC.loop (E := fun s67 => [(7, .map 0), (10, .map 1), (34, .rsl 57 (List.map Fact.c a2)), (35, I (a2.length : Int)), (36, I s67.2)]) (Hp := fun s67 => [.map (menc (fun x => A.int .i64 x) A.bool b10), .map (menc (fun x => A.agg (Pair.c x)) A.bool s67.1)]) h65 ?_ ?_
  ·exact Lr [0, 1]
  intro s67 d68 h69 hb66
  refine Rg (U 1 Z (Nx (TC.seq (CnS Z h69 (fun hc70 h69 => ?_) (fun hc70 h69 => ?_)))))
  ·refine ExX (Qz h69 ?_)
   obtain rfl := hb66 _ (Oi h69).symm
   exact QQ (cutN (Lr [1]))
  refine QU (TC.seq (TC.block (Rg (Bd h69 fun x71 hx71 h69 => Ix hx71 runUnderlying34 sizeOf81 Z (U 3 Z (Nx (TC.seq (Bd h69 fun b78 h79 h69 => ?_))))))))
  refine TC.cut ([(7, .map 0), (10, .map 1), (12, .ptr 2 0), (34, .rsl 57 (List.map Fact.c a2)), (35, I (a2.length : Int)), (36, I s67.2), (61, .bool b78)]) ([.map (menc (fun x => A.int .i64 x) A.bool b10), .map (menc (fun x => A.agg (Pair.c x)) A.bool s67.1), .cells 81 (Fact.c x71)]) ?_ (fun env H hle => ?_)
  ·refine TC.region (U 4 Z (If h79 (fun hg80 h79 => ?_) (fun hg80 h79 => ?_)))
   ·refine vX (.agg (Fact.c x71)) (Qi Z isAgg81 sizeOf81 Z (Pts.cells Z Z) Z Z) ?_ (gT hg80)
    refine Bd h79 fun r81 hr81 h79 => Pc [] Z (OpC.fn call26 Z Z Z) (k_z _ _ _ hr81) (hg := (gT hg80)) Z (Sg (gT hg80) Z (Pk hg80 Z (U 1 Z (If h79 (fun hg82 h79 => ?_) (fun hg82 h79 => ?_)))))
    ·refine Sg (gT hg82) Z (QG (gT hg82) Qdn Z (QG (gT hg82) QgR Z (QO (gT hg82) isAgg3 Z (Bd h79 fun v83 hv83 h79 => ?_))))
     refine vX (.bool v83) (Q6 (ev := A.bool) (z0 := false) (k := x71.Pair.A) (l := b10) Qa7 hv83 underlying57 zeroValue4 ZR.bool) ?_ (gT hg82)
     refine Pk hg82 Z (U 1 Z (If h79 (fun hg84 h79 => ?_) (fun hg84 h79 => ?_)))
     ·refine Sg (gT hg84) Z (QG (gT hg84) Qdn Z (QG (gT hg84) QgQ Z (QO (gT hg84) isAgg3 Z (Bd h79 fun v85 hv85 h79 => ?_))))
      refine vX (.bool v85) (Q6 (ev := A.bool) (z0 := false) (k := x71.Pair.B) (l := b10) Qa7 hv85 underlying57 zeroValue4 ZR.bool) ?_ (gT hg84)
      refine Pk hg84 Z (WO.nil ?_)
      obtain rfl := Oi h79
      exact cutN (Lr [0, 1, 2])
     ·refine KF hg84 Z (KF hg84 Z (KF hg84 Z (KF hg84 Z (KF hg84 Z (Pk hg84 Z (WO.nil ?_))))))
      obtain rfl := Oi h79
      exact cutN (Lr [0, 1, 2])
    ·refine KF hg82 Z (KF hg82 Z (KF hg82 Z (KF hg82 Z (KF hg82 Z (Pk hg82 Z (U 7 Z (WO.nil ?_)))))))
     obtain rfl := Oi h79
     exact cutN (Lr [0, 1, 2])
   ·refine KF hg80 Z (KF hg80 Z (KF hg80 Z (Pk hg80 Z (U 14 Z (WO.nil ?_)))))
    obtain rfl := Oi h79
    exact cutN (Lr [0, 1, 2])
  refine Qf (TC.le hle (Bd h69 fun b88 h89 h69 => ?_))
  refine TC.cut ([(7, .map 0), (10, .map 1), (34, .rsl 57 (List.map Fact.c a2)), (35, I (a2.length : Int)), (36, I s67.2)]) ([.map (menc (fun x => A.int .i64 x) A.bool b10), .map (menc (fun x => A.agg (Pair.c x)) A.bool b88)]) ?_ (fun env H hle => ?_)
  ·refine Cn Z h89 (fun hc90 h89 => ?_) (fun hc90 h89 => ?_)
   ·refine TC.region (U 3 Z (Bd h89 fun m91 hm91 h89 => ?_))
    refine vU (Q8 (ev := A.bool) (k := x71.Pair) (v := true) (l := s67.1) QlM hm91 Z underlying103) ?_
    refine FE Z (WO.nil ?_)
    obtain rfl := Oi h89
    exact cutN (Lr [0, 1])
   refine TC.skip ?_
   obtain rfl := Oi h89
   exact cutN (Lr [0, 1])
  exact QD (Qf (TC.le hle (TC.region (U 2 Z (WO.nil (Qu h69 (Lr [0, 1])))))))
 refine Qf (TC.le hle (TC.seq (Rg (U 1 Z ?_))))
 refine vX (I (b64.length : Int)) (Qa4 (l := b64) underlying103 Z) ?_
 refine U 1 Z (Nx (Cn Z h (fun hc92 h => ?_) (fun hc92 h => ?_)))
 ·refine Rg (U 2 Z (Nx (RtR ?_)))
  obtain rfl := Oi h
  refine R2 4 5 Z Z ?_
  refine Le.trans (Le.phantom (s := 4) (k := 2) (t := 59) (Nat.le_of_ble_eq_true Z) Z) ?_
  exact Lr [1]
 refine QU (Rg (U 1 Z (Bd h fun r93 hr93 h => ?_)))
 refine Qe [0] (OpC.fn call38 Z Z Z) (k_fa _ _ _ hr93) ?_
 rintro _ _ ⟨rfl, rfl⟩
 refine FE Z (Bd h fun r94 hr94 h => ?_)
 refine Qe [1, 0] (OpC.fn call37 Z Z Z) (k_aj _ _ _ hr94) ?_
 rintro _ _ ⟨rfl, rfl⟩
 refine FE Z (U 2 Z (Nx (TC.ret ?_)))
 obtain rfl := Oi h
 exact R2 4 5 Z Z (Lr [2])
def F_fo (n : Nat) (a1 : Starter) (a2 : Int) : Option Unit :=
  some ()
theorem k_fo (n : Nat) (a1 : Starter) (a2 : Int) (r : Unit) (h : F_fo n a1 a2 = some r) :
    C prog 69 [.agg (Starter.c a1), .ptr 0 0] [.cells 3 [I a2]] (fun a H => a = .bool (a1.Bib == a2) ∧ H = [.cells 3 [I a2]]) := by
 refine Qd func69 Z Z Z ?_
 refine Rg (U 2 Z (Nx (Rg (U 5 Z (Nx (TC.ret ?_))))))
 obtain rfl := Oi h
 exact R1 3 Z (Lr [0])
def F_gq (n : Nat) (a1 : List Starter) (a2 : Int) (s13 : Int) : Option (Ctl Int (Ctl Unit Int)) :=
  (bif decide (s13 < (a1.length : Int)) then (idx a1 s13).bind fun x17 => (F_fo n x17 a2).bind fun r18 => (bif (x17.Bib == a2) then some (.done (.done s13)) else some (.cont (IntKind.i64.wrap (s13 + 1)))) else some (.done (.cont ())))
def F_fc (n : Nat) (a1 : List Starter) (a2 : Int) : Option Int :=
  (iter (F_gq n a1 a2) n 0 : Option (Ctl Unit Int)).bind fun b10 => match b10 with | .cont sb10 => (some (-1)) | .done sb10 => some sb10
theorem k_fc (n : Nat) (a1 : List Starter) (a2 : Int) (r : Int) (h : F_fc n a1 a2 = some r) :
    C prog 68 [.rsl 8 (List.map Starter.c a1), .fn (.func 69) [] [.ptr 0 0]] [.cells 3 [I a2]] (fun a H => a = I r ∧ H = [.cells 3 [I a2]]) := by
 refine Qd func68 Z Z Z ?_
 refine Rg (U 1 Z (Nx (TC.seq (Rg (U 1 Z (LnM runUnderlying38 Z (U 1 Z (Nx (Bd h fun b10 h11 h => ?_)))))))))
 refine Qy (b := b10) (fun sb10 => []) (fun sb10 => [.cells 3 [I a2]]) ?_ (fun sb10 env H hbe hle => ?_)
 ·refine TC.block ?_
  refine TC.loop (E := fun s13 => [(0, .rsl 8 (List.map Starter.c a1)), (1, .fn (.func 69) [] [.ptr 0 0]), (7, I (a1.length : Int)), (8, I s13)]) (Hp := fun s13 => [.cells 3 [I a2]]) h11 ?_ ?_
  ·exact Lr [0]
  intro s13 d14 h15 hb12
  refine Rg (U 1 Z (Nx (TC.seq (CnS Z h15 (fun hc16 h15 => ?_) (fun hc16 h15 => ?_)))))
  ·refine ExX (Qz h15 ?_)
   obtain rfl := hb12 _ (Oi h15).symm
   exact QQ (Qx Z (Lr [0]))
  refine QU (TC.seq (TC.block (Rg (U 2 Z (Nx (Rg (U 3 Z (Bd h15 fun x17 hx17 h15 => Ix hx17 runUnderlying38 sizeOf50 Z (U 1 Z (Bd h15 fun r18 hr18 h15 => Pc [0] Z (Qj call69 Z Z Z Z) (k_fo _ _ _ _ hr18) Z (Nx (Cn Z h15 (fun hc19 h15 => ?_) (fun hc19 h15 => ?_)))))))))))))
  ·refine Rg (U 2 Z (Nx (TC.ret (Qm (Ql (QV h15 ?_))))))
   obtain rfl := hb12 _ (Oi h15).symm
   refine Qm (QF (Ql ?_))
   obtain rfl := Oi h
   exact R1 4 Z (Lr [0])
  exact TC.skip (QD (Qf (TC.region (U 2 Z (WO.nil (Qu h15 (Lr [0])))))))
 subst hbe
 refine Qf (TC.le hle (Rg (U 1 Z (Nx (TC.ret ?_)))))
 obtain rfl := Oi h
 exact R1 4 Z (Lr [0])
def F_ck (n : Nat) (a1 : List Starter) (a2 : Int) : Option (Starter × Bool) :=
  (F_fc n a1 a2).bind fun r1 => (bif decide (r1 < 0) then some (z_Starter, false) else (idx a1 r1).bind fun x3 => some (x3, true))
theorem k_ck (n : Nat) (a1 : List Starter) (a2 : Int) (r : Starter × Bool) (h : F_ck n a1 a2 = some r) :
    C prog 43 [.rsl 8 (List.map Starter.c a1), I a2] [] (fun a H => a = .tup [.agg (Starter.c r.1), .bool r.2] ∧ H = [.cells 50 (Starter.c r.1)]) := by
 refine Qd func43 Z Z Z ?_
 refine Rg (U 3 Z (Nx (Rg (U 2 Z (Bd h fun r1 hr1 h => Pc [0] Z (OpC.fn call68 Z Z Z) (k_fc _ _ _ _ hr1) Z (U 1 Z (Nx (TC.seq (Rg (U 2 Z (Nx (Cn Z h (fun hc2 h => ?_) (fun hc2 h => ?_)))))))))))))
 ·refine Rg (U 3 Z (Nx (RtR ?_)))
  obtain rfl := Oi h
  refine ⟨[(4, .ptr 0 0), (5, .bool ((z_Starter, false).2))], [.cells 50 (Starter.c ((z_Starter, false).1))], _, ?_, QB Z Z (ResL.cons (Qn isAgg50 sizeOf50 Z Z Z) (ResL.cons ResAt.tmp ResL.nil)), Z, Z⟩
  exact Lr [1]
 refine QU (Rg (U 2 Z (Bd h fun x3 hx3 h => Ix hx3 runUnderlying38 sizeOf50 Z (U 3 Z (Nx (TC.ret ?_))))))
 obtain rfl := Oi h
 refine ⟨[(4, .ptr 0 0), (5, .bool ((x3, true).2))], [.cells 50 (Starter.c ((x3, true).1))], _, ?_, QB Z Z (ResL.cons (Qn isAgg50 sizeOf50 Z Z Z) (ResL.cons ResAt.tmp ResL.nil)), Z, Z⟩
 exact Lr [1]
def F_t (n : Nat) (a1 : List Starter) (a2 : List Pair) (a3 : Int) (a4 : Int) : Option (Int × Int) :=
  ((bif decide (a3 < 0) then some true else some (decide ((a2.length : Int) < a3))) : Option Bool).bind fun b2 => (bif b2 then some (0, 1) else ((bif decide (0 < a3) then (idx a2 (IntKind.i64.wrap (a3 - 1))).bind fun x17 => ((bif (a4 == x17.A) then some x17.B else (bif (a4 == x17.B) then some x17.A else some a4)) : Option Int).bind fun b20 => some b20 else some a4) : Option Int).bind fun b14 => (F_ck n a1 a4).bind fun r24 => (F_ck n a1 b14).bind fun r25 => ((bif (!r24.2) then some true else some (!r25.2)) : Option Bool).bind fun b27 => (bif b27 then some (0, 180) else some (r25.1.Chip, 0)))
theorem k_t (n : Nat) (a1 : List Starter) (a2 : List Pair) (a3 : Int) (a4 : Int) (r : Int × Int) (h : F_t n a1 a2 a3 a4 = some r) :
    C prog 19 [.rsl 8 (List.map Starter.c a1), .rsl 2 (List.map Pair.c a2), I a3, I a4] [] (fun a H => a = .tup [I r.1, I r.2] ∧ H = []) := by
 refine Qd func19 Z Z Z ?_
 refine Rg (U 2 Z (Nx (TC.seq (TC.seq (Bd h fun b2 h3 h => ?_)))))
 refine TC.cut ([(0, .rsl 8 (List.map Starter.c a1)), (1, .rsl 2 (List.map Pair.c a2)), (2, I a3), (3, I a4), (23, .bool b2)]) ([]) ?_ (fun env H hle => ?_)
 ·refine TC.region (U 3 Z (If h3 (fun hg4 h3 => ?_) (fun hg4 h3 => ?_)))
  ·refine KF hg4 Z (KF hg4 Z (KF hg4 Z (KF hg4 Z (Pk hg4 Z (WO.nil ?_)))))
   obtain rfl := Oi h3
   exact cutN (Lr [])
  ·refine Sg (gT hg4) Z (Sg (gT hg4) Z ?_)
   refine vX (I (a2.length : Int)) (Qk (e := Pair.c) (l := a2) runUnderlying42) ?_ (gT hg4)
   refine Sg (gT hg4) Z (Pk hg4 Z (WO.nil ?_))
   obtain rfl := Oi h3
   exact cutN (Lr [])
 refine Qf (TC.le hle (Cn Z h (fun hc5 h => ?_) (fun hc5 h => ?_)))
 ·refine Rg (U 2 Z (Nx (RtR ?_)))
  obtain rfl := Oi h
  exact R2 8 9 Z Z (Lr [])
 refine QU (Rg (U 2 Z (Nx (TC.seq (Rg (U 2 Z (Nx (Bd h fun b14 h15 h => ?_))))))))
 refine TC.cut ([(0, .rsl 8 (List.map Starter.c a1)), (3, I a4), (10, I b14)]) ([]) ?_ (fun env H hle => ?_)
 ·refine Cn Z h15 (fun hc16 h15 => ?_) (fun hc16 h15 => ?_)
  ·refine Rg (U 3 Z (Bd h15 fun x17 hx17 h15 => Ix hx17 runUnderlying42 sizeOf59 Z (U 3 Z (Nx (Rg (U 1 Z (Nx (TC.block (Rg (U 4 Z (Nx (Bd h15 fun b20 h21 h15 => ?_))))))))))))
   refine TC.cut ([(0, .rsl 8 (List.map Starter.c a1)), (3, I a4), (10, I b20)]) ([]) ?_ (fun env H hle => ?_)
   ·refine Cn Z h21 (fun hc22 h21 => ?_) (fun hc22 h21 => ?_)
    ·refine TC.region (U 3 Z (WO.nil ?_))
     obtain rfl := Oi h21
     exact cutN (Lr [])
    refine Rg (U 4 Z (Nx (Cn Z h21 (fun hc23 h21 => ?_) (fun hc23 h21 => ?_))))
    ·refine TC.region (U 3 Z (WO.nil ?_))
     obtain rfl := Oi h21
     exact cutN (Lr [])
    refine TC.skip ?_
    obtain rfl := Oi h21
    exact cutN (Lr [])
   refine QD ?_
   obtain rfl := Oi h15
   exact cutN (Le.trans hle (Lr []))
  refine TC.skip ?_
  obtain rfl := Oi h15
  exact cutN (Lr [])
 refine Qf (TC.le hle (Rg (U 2 Z (Bd h fun r24 hr24 h => ?_))))
 refine Qe [] (OpC.fn call43 Z Z Z) (k_ck _ _ _ _ hr24) ?_
 rintro _ _ ⟨rfl, rfl⟩
 refine FE Z (U 6 Z (Nx (Rg (U 2 Z (Bd h fun r25 hr25 h => ?_)))))
 refine Qe [] (OpC.fn call43 Z Z Z) (k_ck _ _ _ _ hr25) ?_
 rintro _ _ ⟨rfl, rfl⟩
 refine FE Z (U 6 Z (Nx (TC.seq (TC.seq (Bd h fun b27 h28 h => ?_)))))
 refine TC.cut ([(14, .ptr 0 0), (62, .bool b27)]) ([.cells 50 (Starter.c r25.1)]) ?_ (fun env H hle => ?_)
 ·refine TC.region (U 3 Z (If h28 (fun hg29 h28 => ?_) (fun hg29 h28 => ?_)))
  ·refine KF hg29 Z (KF hg29 Z (Pk hg29 Z (WO.nil ?_)))
   obtain rfl := Oi h28
   exact cutN (Lr [3])
  ·refine Sg (gT hg29) Z (Sg (gT hg29) Z (Pk hg29 Z (WO.nil ?_)))
   obtain rfl := Oi h28
   exact cutN (Lr [3])
 refine Qf (TC.le hle (Cn Z h (fun hc30 h => ?_) (fun hc30 h => ?_)))
 ·refine Rg (U 2 Z (Nx (RtR ?_)))
  obtain rfl := Oi h
  exact R2 8 9 Z Z (Lr [])
 refine QU (Rg (U 4 Z (Nx (TC.ret ?_))))
 obtain rfl := Oi h
 exact R2 8 9 Z Z (Lr [])
def F_gw (n : Nat) (a1 : List Starter) (a2 : List Pair) (a3 : Int) (a4 : Int) (s21 : Int) : Option (Ctl Int (Ctl Unit (Int × Bool))) :=
  (bif decide (s21 < (a1.length : Int)) then (idx a1 s21).bind fun x25 => (F_t n a1 a2 a3 x25.Bib).bind fun r26 => ((bif (r26.2 == 0) then some (r26.1 == a4) else some false) : Option Bool).bind fun b28 => (bif b28 then some (.done (.done (x25.Bib, true))) else some (.cont (IntKind.i64.wrap (s21 + 1)))) else some (.done (.cont ())))
def F_bb (n : Nat) (a1 : List Starter) (a2 : List Pair) (a3 : Int) (a4 : Int) : Option (Int × Bool) :=
  (iter (F_gw n a1 a2 a3 a4) n 0 : Option (Ctl Unit (Int × Bool))).bind fun b18 => match b18 with | .cont sb18 => (some (0, false)) | .done sb18 => some sb18
theorem k_bb (n : Nat) (a1 : List Starter) (a2 : List Pair) (a3 : Int) (a4 : Int) (r : Int × Bool) (h : F_bb n a1 a2 a3 a4 = some r) :
    C prog 21 [.rsl 8 (List.map Starter.c a1), .rsl 2 (List.map Pair.c a2), I a3, I a4] [] (fun a H => a = .tup [I r.1, .bool r.2] ∧ H = []) := by
 refine Qd func21 Z Z Z ?_
 refine Rg (U 2 Z (Nx (TC.seq (Rg (U 1 Z (LnM runUnderlying38 Z (U 1 Z (Nx (Bd h fun b18 h19 h => ?_)))))))))
 refine Qy (b := b18) (fun sb18 => []) (fun sb18 => []) ?_ (fun sb18 env H hbe hle => ?_)
 ·refine TC.block ?_
  refine TC.loop (E := fun s21 => [(0, .rsl 8 (List.map Starter.c a1)), (1, .rsl 2 (List.map Pair.c a2)), (2, I a3), (3, I a4), (14, .rsl 8 (List.map Starter.c a1)), (15, I (a1.length : Int)), (16, I s21)]) (Hp := fun s21 => []) h19 ?_ ?_
  ·exact Lr []
  intro s21 d22 h23 hb20
  refine Rg (U 1 Z (Nx (TC.seq (CnS Z h23 (fun hc24 h23 => ?_) (fun hc24 h23 => ?_)))))
  ·refine ExX (Qz h23 ?_)
   obtain rfl := hb20 _ (Oi h23).symm
   exact QQ (Qx Z (Lr []))
  refine QU (TC.seq (TC.block (Rg (Bd h23 fun x25 hx25 h23 => Ix hx25 runUnderlying38 sizeOf50 Z (U 3 Z (Nx (Rg (U 5 Z (Bd h23 fun r26 hr26 h23 => ?_)))))))))
  refine Qe [] (OpC.fn call19 Z Z Z) (k_t _ _ _ _ _ _ hr26) ?_
  rintro _ _ ⟨rfl, rfl⟩
  refine FE Z (U 5 Z (Nx (TC.seq (Bd h23 fun b28 h29 h23 => ?_))))
  refine TC.cut ([(0, .rsl 8 (List.map Starter.c a1)), (1, .rsl 2 (List.map Pair.c a2)), (2, I a3), (3, I a4), (11, .ptr 0 0), (14, .rsl 8 (List.map Starter.c a1)), (15, I (a1.length : Int)), (16, I s21), (35, .bool b28)]) ([.cells 50 (Starter.c x25)]) ?_ (fun env H hle => ?_)
  ·refine TC.region (U 3 Z (If h29 (fun hg30 h29 => ?_) (fun hg30 h29 => ?_)))
   ·refine Sg (gT hg30) Z (Sg (gT hg30) Z (Sg (gT hg30) Z (Pk hg30 Z (WO.nil ?_))))
    obtain rfl := Oi h29
    exact cutN (Lr [0])
   ·refine KF hg30 Z (KF hg30 Z (KF hg30 Z (Pk hg30 Z (WO.nil ?_))))
    obtain rfl := Oi h29
    exact cutN (Lr [0])
  refine Qf (TC.le hle (Cn Z h23 (fun hc31 h23 => ?_) (fun hc31 h23 => ?_)))
  ·refine Rg (U 4 Z (Nx (TC.ret (Qm (Ql (QV h23 ?_))))))
   obtain rfl := hb20 _ (Oi h23).symm
   refine Qm (QF (Ql ?_))
   obtain rfl := Oi h
   exact R2 8 9 Z Z (Lr [])
  exact TC.skip (QD (Qf (TC.region (U 2 Z (WO.nil (Qu h23 (Lr [])))))))
 subst hbe
 refine Qf (TC.le hle (Rg (U 2 Z (Nx (TC.ret ?_)))))
 obtain rfl := Oi h
 exact R2 8 9 Z Z (Lr [])
def F_bt (n : Nat) (a1 : List Pair) : Option Unit :=
  some ()
theorem k_bt (n : Nat) (a1 : List Pair) (r : Unit) (h : F_bt n a1 = some r) :
    C prog 23 [.rsl 2 (List.map Pair.c a1)] [] (fun a H => a = I (IntKind.i64.wrap ((a1.length : Int) + 1)) ∧ H = []) := by
 refine Qd func23 Z Z Z ?_
 refine Rg (U 1 Z (Nx (Rg (U 1 Z (LnM runUnderlying42 Z (U 2 Z (Nx (TC.ret ?_))))))))
 obtain rfl := Oi h
 exact R1 2 Z (Lr [])
def F_ee (n : Nat) : Option Bool :=
  (F_ah n 2 3 30).bind fun r1 => (F_ah n 1 5 50).bind fun r2 => (F_ah n 3 5 99).bind fun r3 => (F_by n).bind fun r4 => (F_o n ({ Name := [115, 97, 109, 112, 108, 101], Mats := [{ Name := [108, 105, 110, 101], Kind := 1 : Mat }, { Name := [102, 105, 110, 105, 115, 104], Kind := 3 : Mat }], Legs := [{ From := 0, To := 1, Min := 10, Max := 100 : Leg }], Distances := [{ Name := [98, 114, 105, 101, 102], Route := [z_Part, { z_Part with Mat := 1 : Part }], Timing := 1, Cutoffs := [], Extra := (-1) : Distance }], Waves := [{ Name := [101, 108, 105, 116, 101], Gun := 0 : Wave }], Offences := [], Categories := [], Prizes := [], Ties := [{ z_Step with Kind := 1, By := 4 : Step }], Faults := z_Faults, Fee := 0, Deadline := 0 : Course }) [{ z_Fact with No := 1, At := 2, Kind := 1, Starter := { z_Starter with Bib := 3, Chip := 30 : Starter } : Fact }, { z_Fact with No := 1, At := 1, Kind := 1, Starter := { z_Starter with Bib := 5, Chip := 50 : Starter } : Fact }, { z_Fact with No := 1, At := 3, Kind := 1, Starter := { z_Starter with Bib := 5, Chip := 99 : Starter } : Fact }, { z_Fact with No := 1, Kind := 7, Pair := { A := 3, B := 5 : Pair } : Fact }, { z_Fact with No := 2, Kind := 7, Pair := { A := 3, B := 6 : Pair } : Fact }]).bind fun r5 => (F_by n).bind fun r6 => (F_u n ({ Name := [115, 97, 109, 112, 108, 101], Mats := [{ Name := [108, 105, 110, 101], Kind := 1 : Mat }, { Name := [102, 105, 110, 105, 115, 104], Kind := 3 : Mat }], Legs := [{ From := 0, To := 1, Min := 10, Max := 100 : Leg }], Distances := [{ Name := [98, 114, 105, 101, 102], Route := [z_Part, { z_Part with Mat := 1 : Part }], Timing := 1, Cutoffs := [], Extra := (-1) : Distance }], Waves := [{ Name := [101, 108, 105, 116, 101], Gun := 0 : Wave }], Offences := [], Categories := [], Prizes := [], Ties := [{ z_Step with Kind := 1, By := 4 : Step }], Faults := z_Faults, Fee := 0, Deadline := 0 : Course }) [{ z_Fact with No := 1, At := 2, Kind := 1, Starter := { z_Starter with Bib := 3, Chip := 30 : Starter } : Fact }, { z_Fact with No := 1, At := 1, Kind := 1, Starter := { z_Starter with Bib := 5, Chip := 50 : Starter } : Fact }, { z_Fact with No := 1, At := 3, Kind := 1, Starter := { z_Starter with Bib := 5, Chip := 99 : Starter } : Fact }, { z_Fact with No := 1, Kind := 7, Pair := { A := 3, B := 5 : Pair } : Fact }, { z_Fact with No := 2, Kind := 7, Pair := { A := 3, B := 6 : Pair } : Fact }]).bind fun r7 => (F_t n r5.1 r7.1 1 3).bind fun r8 => (F_t n [] [] 0 1).bind fun r9 => (F_t n r5.1 [] 1 3).bind fun r10 => (F_bb n r5.1 r7.1 1 30).bind fun r11 => (F_bb n [] [] 0 1).bind fun r12 => ((bif (r5.2 == 0) then (bif ((r5.1.length : Int) == 2) then (idx r5.1 0).bind fun x26 => (bif (x26.Bib == 3) then (idx r5.1 1).bind fun x28 => (bif (x28.Chip == 50) then (bif (r7.2 == 0) then (bif ((r7.1.length : Int) == 1) then (idx r7.1 0).bind fun x32 => some (x32 == ({ A := 3, B := 5 : Pair })) else some false) else some false) else some false) else some false) else some false) else some false) : Option Bool).bind fun b22 => ((bif b22 then (F_bt n r7.1).bind fun r47 => (bif ((IntKind.i64.wrap ((r7.1.length : Int) + 1)) == 2) then (F_bt n []).bind fun r49 => (bif ((IntKind.i64.wrap ((([] : List Pair).length : Int) + 1)) == 1) then (bif (r8.2 == 0) then (bif (r8.1 == 50) then (bif (r9.2 == 180) then (bif (r10.2 == 1) then (bif r11.2 then (bif (r11.1 == 5) then some (!r12.2) else some false) else some false) else some false) else some false) else some false) else some false) else some false) else some false) else some false) : Option Bool).bind fun b44 => some b44
theorem k_ee (n : Nat) (r : Bool) (h : F_ee n = some r) :
    C prog 10 [] [] (fun a H => a = .bool r ∧ H = []) := by
 refine Qd func10 Z Z Z ?_
 refine Rg (U 1 Z (Nx (Rg (Bd h fun r1 hr1 h => ?_))))
 refine Qe [] (OpC.fn call29 Z Z Z) (k_ah _ _ _ _ _ hr1) ?_
 rintro _ _ ⟨rfl, rfl⟩
 refine aV (.agg (Fact.c ({ z_Fact with No := 1, At := 2, Kind := 1, Starter := { z_Starter with Bib := 3, Chip := 30 : Starter } : Fact }))) [.cells 81 (Fact.c ({ z_Fact with No := 1, At := 2, Kind := 1, Starter := { z_Starter with Bib := 3, Chip := 30 : Starter } : Fact }))] Z Z ?_
 refine Bd h fun r2 hr2 h => ?_
 refine Qe [] (OpC.fn call29 Z Z Z) (k_ah _ _ _ _ _ hr2) ?_
 rintro _ _ ⟨rfl, rfl⟩
 refine aV (.agg (Fact.c ({ z_Fact with No := 1, At := 1, Kind := 1, Starter := { z_Starter with Bib := 5, Chip := 50 : Starter } : Fact }))) [_, .cells 81 (Fact.c ({ z_Fact with No := 1, At := 1, Kind := 1, Starter := { z_Starter with Bib := 5, Chip := 50 : Starter } : Fact }))] Z Z ?_
 refine Bd h fun r3 hr3 h => ?_
 refine Qe [] (OpC.fn call29 Z Z Z) (k_ah _ _ _ _ _ hr3) ?_
 rintro _ _ ⟨rfl, rfl⟩
 refine aV (.agg (Fact.c ({ z_Fact with No := 1, At := 3, Kind := 1, Starter := { z_Starter with Bib := 5, Chip := 99 : Starter } : Fact }))) [_, _, .cells 81 (Fact.c ({ z_Fact with No := 1, At := 3, Kind := 1, Starter := { z_Starter with Bib := 5, Chip := 99 : Starter } : Fact }))] Z Z ?_
 refine U 4 Z ?_
 refine vH (OpH.lit (xs := [.tmp 17, .tmp 18, .tmp 19, .tmp 21, .tmp 23]) (es := List.map Fact.c [{ z_Fact with No := 1, At := 2, Kind := 1, Starter := { z_Starter with Bib := 3, Chip := 30 : Starter } : Fact }, { z_Fact with No := 1, At := 1, Kind := 1, Starter := { z_Starter with Bib := 5, Chip := 50 : Starter } : Fact }, { z_Fact with No := 1, At := 3, Kind := 1, Starter := { z_Starter with Bib := 5, Chip := 99 : Starter } : Fact }, { z_Fact with No := 1, Kind := 7, Pair := { A := 3, B := 5 : Pair } : Fact }, { z_Fact with No := 2, Kind := 7, Pair := { A := 3, B := 6 : Pair } : Fact }]) Qbg Z Z Z Z Z ⟨Z, Z, Z, Z, Z, trivial⟩ Z Z) ?_
 refine aV (.osl 3 0 ([{ z_Fact with No := 1, At := 2, Kind := 1, Starter := { z_Starter with Bib := 3, Chip := 30 : Starter } : Fact }, { z_Fact with No := 1, At := 1, Kind := 1, Starter := { z_Starter with Bib := 5, Chip := 50 : Starter } : Fact }, { z_Fact with No := 1, At := 3, Kind := 1, Starter := { z_Starter with Bib := 5, Chip := 99 : Starter } : Fact }, { z_Fact with No := 1, Kind := 7, Pair := { A := 3, B := 5 : Pair } : Fact }, { z_Fact with No := 2, Kind := 7, Pair := { A := 3, B := 6 : Pair } : Fact }].length) 57) [_, _, _, .row 81 57 (List.map Fact.c [{ z_Fact with No := 1, At := 2, Kind := 1, Starter := { z_Starter with Bib := 3, Chip := 30 : Starter } : Fact }, { z_Fact with No := 1, At := 1, Kind := 1, Starter := { z_Starter with Bib := 5, Chip := 50 : Starter } : Fact }, { z_Fact with No := 1, At := 3, Kind := 1, Starter := { z_Starter with Bib := 5, Chip := 99 : Starter } : Fact }, { z_Fact with No := 1, Kind := 7, Pair := { A := 3, B := 5 : Pair } : Fact }, { z_Fact with No := 2, Kind := 7, Pair := { A := 3, B := 6 : Pair } : Fact }])] Z Z ?_
 refine U 1 Z (Nx (Rg (Bd h fun r4 hr4 h => ?_)))
 refine Qe [] (OpC.fn call30 Z Z Z) (k_by _ _ hr4) ?_
 rintro _ _ ⟨rfl, rfl⟩
 refine aV (.agg [.str [115, 97, 109, 112, 108, 101], .osl 4 0 ([{ Name := [108, 105, 110, 101], Kind := 1 : Mat }, { Name := [102, 105, 110, 105, 115, 104], Kind := 3 : Mat }].length) 2, .osl 5 0 ([{ From := 0, To := 1, Min := 10, Max := 100 : Leg }].length) 4, .osl 6 0 ([{ Name := [98, 114, 105, 101, 102], Route := [z_Part, { z_Part with Mat := 1 : Part }], Timing := 1, Cutoffs := [], Extra := (-1) : Distance }].length) 5, .osl 7 0 ([{ Name := [101, 108, 105, 116, 101], Gun := 0 : Wave }].length) 2, .rsl 4 (List.map Offence.c []), .rsl 3 (List.map Category.c []), .rsl 4 (List.map Prize.c []), .osl 8 0 ([{ z_Step with Kind := 1, By := 4 : Step }].length) 8, I 0, I 0, I 0, I 0, I 0, I 0, I 0]) [_, _, _, _, .row 96 2 (List.map Mat.c [{ Name := [108, 105, 110, 101], Kind := 1 : Mat }, { Name := [102, 105, 110, 105, 115, 104], Kind := 3 : Mat }]), .row 123 4 (List.map Leg.c [{ From := 0, To := 1, Min := 10, Max := 100 : Leg }]), .row 94 5 (List.map Distance.c [{ Name := [98, 114, 105, 101, 102], Route := [z_Part, { z_Part with Mat := 1 : Part }], Timing := 1, Cutoffs := [], Extra := (-1) : Distance }]), .row 127 2 (List.map Wave.c [{ Name := [101, 108, 105, 116, 101], Gun := 0 : Wave }]), .row 132 8 (List.map Step.enc [{ z_Step with Kind := 1, By := 4 : Step }]), .cells 33 [.str [115, 97, 109, 112, 108, 101], .osl 4 0 ([{ Name := [108, 105, 110, 101], Kind := 1 : Mat }, { Name := [102, 105, 110, 105, 115, 104], Kind := 3 : Mat }].length) 2, .osl 5 0 ([{ From := 0, To := 1, Min := 10, Max := 100 : Leg }].length) 4, .osl 6 0 ([{ Name := [98, 114, 105, 101, 102], Route := [z_Part, { z_Part with Mat := 1 : Part }], Timing := 1, Cutoffs := [], Extra := (-1) : Distance }].length) 5, .osl 7 0 ([{ Name := [101, 108, 105, 116, 101], Gun := 0 : Wave }].length) 2, .rsl 4 (List.map Offence.c []), .rsl 3 (List.map Category.c []), .rsl 4 (List.map Prize.c []), .osl 8 0 ([{ z_Step with Kind := 1, By := 4 : Step }].length) 8, I 0, I 0, I 0, I 0, I 0, I 0, I 0]] Z Z ?_
 refine U 1 Z ?_
 refine WO.le (QaG [(26, _)] Z Z (FzOv.cons Z (FzA.agg (FzL.cons (FzA.refl _) (FzL.cons FzA.o (FzL.refl _)))) FzOv.nil) (FzH.keep (FzH.keep (FzH.keep (FzH.keep (FzH.keep (FzH.keep (FzH.keep (FzH.keep (FzH.keep (FzH.cells (FzL.cons (FzA.refl _) (FzL.cons FzA.o (FzL.refl _))) (YB _)))))))))))) ?_
 refine WO.le (QaG [(26, _)] Z Z (FzOv.cons Z (FzA.agg (FzL.cons (FzA.refl _) (FzL.cons (FzA.refl _) (FzL.cons FzA.o (FzL.refl _))))) FzOv.nil) (FzH.keep (FzH.keep (FzH.keep (FzH.keep (FzH.keep (FzH.keep (FzH.keep (FzH.keep (FzH.keep (FzH.cells (FzL.cons (FzA.refl _) (FzL.cons (FzA.refl _) (FzL.cons FzA.o (FzL.refl _)))) (YB _)))))))))))) ?_
 refine WO.le (QaG [(26, _)] Z Z (FzOv.cons Z (FzA.agg (FzL.cons (FzA.refl _) (FzL.cons (FzA.refl _) (FzL.cons (FzA.refl _) (FzL.cons FzA.o (FzL.refl _)))))) FzOv.nil) (FzH.keep (FzH.keep (FzH.keep (FzH.keep (FzH.keep (FzH.keep (FzH.keep (FzH.keep (FzH.keep (FzH.cells (FzL.cons (FzA.refl _) (FzL.cons (FzA.refl _) (FzL.cons (FzA.refl _) (FzL.cons FzA.o (FzL.refl _))))) (YB _)))))))))))) ?_
 refine WO.le (QaG [(26, _)] Z Z (FzOv.cons Z (FzA.agg (FzL.cons (FzA.refl _) (FzL.cons (FzA.refl _) (FzL.cons (FzA.refl _) (FzL.cons (FzA.refl _) (FzL.cons FzA.o (FzL.refl _))))))) FzOv.nil) (FzH.keep (FzH.keep (FzH.keep (FzH.keep (FzH.keep (FzH.keep (FzH.keep (FzH.keep (FzH.keep (FzH.cells (FzL.cons (FzA.refl _) (FzL.cons (FzA.refl _) (FzL.cons (FzA.refl _) (FzL.cons (FzA.refl _) (FzL.cons FzA.o (FzL.refl _)))))) (YB _)))))))))))) ?_
 refine WO.le (QaG [(26, _)] Z Z (FzOv.cons Z (FzA.agg (FzL.cons (FzA.refl _) (FzL.cons (FzA.refl _) (FzL.cons (FzA.refl _) (FzL.cons (FzA.refl _) (FzL.cons (FzA.refl _) (FzL.cons (FzA.refl _) (FzL.cons (FzA.refl _) (FzL.cons (FzA.refl _) (FzL.cons FzA.o (FzL.refl _))))))))))) FzOv.nil) (FzH.keep (FzH.keep (FzH.keep (FzH.keep (FzH.keep (FzH.keep (FzH.keep (FzH.keep (FzH.keep (FzH.cells (FzL.cons (FzA.refl _) (FzL.cons (FzA.refl _) (FzL.cons (FzA.refl _) (FzL.cons (FzA.refl _) (FzL.cons (FzA.refl _) (FzL.cons (FzA.refl _) (FzL.cons (FzA.refl _) (FzL.cons (FzA.refl _) (FzL.cons FzA.o (FzL.refl _)))))))))) (YB _)))))))))))) ?_
 refine WO.le (QaG [(1, _), (24, _), (27, _)] Z Z (FzOv.cons Z FzA.o (FzOv.cons Z FzA.o (FzOv.cons Z FzA.o FzOv.nil))) (FzH.keep (FzH.keep (FzH.keep (FzH.keep (YB _)))))) ?_
 refine Bd h fun r5 hr5 h => ?_
 refine Qe [] (OpC.fn call13 Z Z Z) (k_o _ _ _ _ hr5) ?_
 rintro _ _ ⟨rfl, rfl⟩
 refine aV (.tup [.osl 10 0 r5.1.length 8, I r5.2]) [_, _, _, .dead, .dead, .dead, .dead, .dead, .dead, .cells 33 [.str [115, 97, 109, 112, 108, 101], .rsl 2 (List.map Mat.c [{ Name := [108, 105, 110, 101], Kind := 1 : Mat }, { Name := [102, 105, 110, 105, 115, 104], Kind := 3 : Mat }]), .rsl 4 (List.map Leg.c [{ From := 0, To := 1, Min := 10, Max := 100 : Leg }]), .rsl 5 (List.map Distance.c [{ Name := [98, 114, 105, 101, 102], Route := [z_Part, { z_Part with Mat := 1 : Part }], Timing := 1, Cutoffs := [], Extra := (-1) : Distance }]), .rsl 2 (List.map Wave.c [{ Name := [101, 108, 105, 116, 101], Gun := 0 : Wave }]), .rsl 4 (List.map Offence.c []), .rsl 3 (List.map Category.c []), .rsl 4 (List.map Prize.c []), .rsl 8 (List.map Step.enc [{ z_Step with Kind := 1, By := 4 : Step }]), I 0, I 0, I 0, I 0, I 0, I 0, I 0], .row 50 8 (List.map Starter.c r5.1)] Z Z ?_
 refine U 5 Z (Nx (Rg (Bd h fun r6 hr6 h => ?_)))
 refine Qe [] (OpC.fn call30 Z Z Z) (k_by _ _ hr6) ?_
 rintro _ _ ⟨rfl, rfl⟩
 refine aV (.agg [.str [115, 97, 109, 112, 108, 101], .osl 11 0 ([{ Name := [108, 105, 110, 101], Kind := 1 : Mat }, { Name := [102, 105, 110, 105, 115, 104], Kind := 3 : Mat }].length) 2, .osl 12 0 ([{ From := 0, To := 1, Min := 10, Max := 100 : Leg }].length) 4, .osl 13 0 ([{ Name := [98, 114, 105, 101, 102], Route := [z_Part, { z_Part with Mat := 1 : Part }], Timing := 1, Cutoffs := [], Extra := (-1) : Distance }].length) 5, .osl 14 0 ([{ Name := [101, 108, 105, 116, 101], Gun := 0 : Wave }].length) 2, .rsl 4 (List.map Offence.c []), .rsl 3 (List.map Category.c []), .rsl 4 (List.map Prize.c []), .osl 15 0 ([{ z_Step with Kind := 1, By := 4 : Step }].length) 8, I 0, I 0, I 0, I 0, I 0, I 0, I 0]) [_, _, _, _, _, _, _, _, _, _, _, .row 96 2 (List.map Mat.c [{ Name := [108, 105, 110, 101], Kind := 1 : Mat }, { Name := [102, 105, 110, 105, 115, 104], Kind := 3 : Mat }]), .row 123 4 (List.map Leg.c [{ From := 0, To := 1, Min := 10, Max := 100 : Leg }]), .row 94 5 (List.map Distance.c [{ Name := [98, 114, 105, 101, 102], Route := [z_Part, { z_Part with Mat := 1 : Part }], Timing := 1, Cutoffs := [], Extra := (-1) : Distance }]), .row 127 2 (List.map Wave.c [{ Name := [101, 108, 105, 116, 101], Gun := 0 : Wave }]), .row 132 8 (List.map Step.enc [{ z_Step with Kind := 1, By := 4 : Step }]), .cells 33 [.str [115, 97, 109, 112, 108, 101], .osl 11 0 ([{ Name := [108, 105, 110, 101], Kind := 1 : Mat }, { Name := [102, 105, 110, 105, 115, 104], Kind := 3 : Mat }].length) 2, .osl 12 0 ([{ From := 0, To := 1, Min := 10, Max := 100 : Leg }].length) 4, .osl 13 0 ([{ Name := [98, 114, 105, 101, 102], Route := [z_Part, { z_Part with Mat := 1 : Part }], Timing := 1, Cutoffs := [], Extra := (-1) : Distance }].length) 5, .osl 14 0 ([{ Name := [101, 108, 105, 116, 101], Gun := 0 : Wave }].length) 2, .rsl 4 (List.map Offence.c []), .rsl 3 (List.map Category.c []), .rsl 4 (List.map Prize.c []), .osl 15 0 ([{ z_Step with Kind := 1, By := 4 : Step }].length) 8, I 0, I 0, I 0, I 0, I 0, I 0, I 0]] Z Z ?_
 refine U 1 Z ?_
 refine WO.le (QaG [(32, _)] Z Z (FzOv.cons Z (FzA.agg (FzL.cons (FzA.refl _) (FzL.cons FzA.o (FzL.refl _)))) FzOv.nil) (FzH.keep (FzH.keep (FzH.keep (FzH.keep (FzH.keep (FzH.keep (FzH.keep (FzH.keep (FzH.keep (FzH.keep (FzH.keep (FzH.keep (FzH.keep (FzH.keep (FzH.keep (FzH.keep (FzH.cells (FzL.cons (FzA.refl _) (FzL.cons FzA.o (FzL.refl _))) (YB _))))))))))))))))))) ?_
 refine WO.le (QaG [(32, _)] Z Z (FzOv.cons Z (FzA.agg (FzL.cons (FzA.refl _) (FzL.cons (FzA.refl _) (FzL.cons FzA.o (FzL.refl _))))) FzOv.nil) (FzH.keep (FzH.keep (FzH.keep (FzH.keep (FzH.keep (FzH.keep (FzH.keep (FzH.keep (FzH.keep (FzH.keep (FzH.keep (FzH.keep (FzH.keep (FzH.keep (FzH.keep (FzH.keep (FzH.cells (FzL.cons (FzA.refl _) (FzL.cons (FzA.refl _) (FzL.cons FzA.o (FzL.refl _)))) (YB _))))))))))))))))))) ?_
 refine WO.le (QaG [(32, _)] Z Z (FzOv.cons Z (FzA.agg (FzL.cons (FzA.refl _) (FzL.cons (FzA.refl _) (FzL.cons (FzA.refl _) (FzL.cons FzA.o (FzL.refl _)))))) FzOv.nil) (FzH.keep (FzH.keep (FzH.keep (FzH.keep (FzH.keep (FzH.keep (FzH.keep (FzH.keep (FzH.keep (FzH.keep (FzH.keep (FzH.keep (FzH.keep (FzH.keep (FzH.keep (FzH.keep (FzH.cells (FzL.cons (FzA.refl _) (FzL.cons (FzA.refl _) (FzL.cons (FzA.refl _) (FzL.cons FzA.o (FzL.refl _))))) (YB _))))))))))))))))))) ?_
 refine WO.le (QaG [(32, _)] Z Z (FzOv.cons Z (FzA.agg (FzL.cons (FzA.refl _) (FzL.cons (FzA.refl _) (FzL.cons (FzA.refl _) (FzL.cons (FzA.refl _) (FzL.cons FzA.o (FzL.refl _))))))) FzOv.nil) (FzH.keep (FzH.keep (FzH.keep (FzH.keep (FzH.keep (FzH.keep (FzH.keep (FzH.keep (FzH.keep (FzH.keep (FzH.keep (FzH.keep (FzH.keep (FzH.keep (FzH.keep (FzH.keep (FzH.cells (FzL.cons (FzA.refl _) (FzL.cons (FzA.refl _) (FzL.cons (FzA.refl _) (FzL.cons (FzA.refl _) (FzL.cons FzA.o (FzL.refl _)))))) (YB _))))))))))))))))))) ?_
 refine WO.le (QaG [(32, _)] Z Z (FzOv.cons Z (FzA.agg (FzL.cons (FzA.refl _) (FzL.cons (FzA.refl _) (FzL.cons (FzA.refl _) (FzL.cons (FzA.refl _) (FzL.cons (FzA.refl _) (FzL.cons (FzA.refl _) (FzL.cons (FzA.refl _) (FzL.cons (FzA.refl _) (FzL.cons FzA.o (FzL.refl _))))))))))) FzOv.nil) (FzH.keep (FzH.keep (FzH.keep (FzH.keep (FzH.keep (FzH.keep (FzH.keep (FzH.keep (FzH.keep (FzH.keep (FzH.keep (FzH.keep (FzH.keep (FzH.keep (FzH.keep (FzH.keep (FzH.cells (FzL.cons (FzA.refl _) (FzL.cons (FzA.refl _) (FzL.cons (FzA.refl _) (FzL.cons (FzA.refl _) (FzL.cons (FzA.refl _) (FzL.cons (FzA.refl _) (FzL.cons (FzA.refl _) (FzL.cons (FzA.refl _) (FzL.cons FzA.o (FzL.refl _)))))))))) (YB _))))))))))))))))))) ?_
 refine Bd h fun r7 hr7 h => ?_
 refine Qe [] (OpC.fn call15 Z Z Z) (k_u _ _ _ _ hr7) ?_
 rintro _ _ ⟨rfl, rfl⟩
 refine aV (.tup [.osl 17 0 r7.1.length 2, I r7.2]) [_, _, _, _, _, _, _, _, _, _, _, .dead, .dead, .dead, .dead, .dead, .cells 33 [.str [115, 97, 109, 112, 108, 101], .rsl 2 (List.map Mat.c [{ Name := [108, 105, 110, 101], Kind := 1 : Mat }, { Name := [102, 105, 110, 105, 115, 104], Kind := 3 : Mat }]), .rsl 4 (List.map Leg.c [{ From := 0, To := 1, Min := 10, Max := 100 : Leg }]), .rsl 5 (List.map Distance.c [{ Name := [98, 114, 105, 101, 102], Route := [z_Part, { z_Part with Mat := 1 : Part }], Timing := 1, Cutoffs := [], Extra := (-1) : Distance }]), .rsl 2 (List.map Wave.c [{ Name := [101, 108, 105, 116, 101], Gun := 0 : Wave }]), .rsl 4 (List.map Offence.c []), .rsl 3 (List.map Category.c []), .rsl 4 (List.map Prize.c []), .rsl 8 (List.map Step.enc [{ z_Step with Kind := 1, By := 4 : Step }]), I 0, I 0, I 0, I 0, I 0, I 0, I 0], .row 59 2 (List.map Pair.c r7.1)] Z Z ?_
 refine U 5 Z (Nx (Rg (U 2 Z (Bd h fun r8 hr8 h => ?_))))
 refine Qh (OpC.fn call19 rfl rfl rfl) (LookL.cons rfl (.inr ⟨_, _, _, _, _, rfl, rfl, List.length_map .., rfl⟩) (LookL.cons rfl (.inr ⟨_, _, _, _, _, rfl, rfl, List.length_map .., rfl⟩) (LookL.cons rfl (.inl ⟨rfl, rfl⟩) (LookL.cons rfl (.inl ⟨rfl, rfl⟩) LookL.nil)))) (k_t _ _ _ _ _ _ hr8) (by rintro _ _ ⟨rfl, rfl⟩; rfl) ?_
 rintro _ _ ⟨rfl, rfl⟩
 refine aV (.tup [I r8.1, I r8.2]) [_, _, _, _, _, _, _, _, _, _, _, _, _, _, _, _, _, _] Z Z ?_
 refine U 5 Z (Nx (Rg (Bd h fun r9 hr9 h => ?_)))
 refine Qe [] (OpC.fn call19 Z Z Z) (C.nils (NilL.nl (NilL.nl (NilL.eq (NilL.eq NilL.nil)))) (k_t _ _ _ _ _ _ hr9)) ?_
 rintro _ _ ⟨rfl, rfl⟩
 refine aV (.tup [I r9.1, I r9.2]) [_, _, _, _, _, _, _, _, _, _, _, _, _, _, _, _, _, _] Z Z ?_
 refine U 5 Z (Nx (Rg (U 1 Z (Bd h fun r10 hr10 h => ?_))))
 refine Qh (OpC.fn call19 rfl rfl rfl) (LookL.cons rfl (.inr ⟨_, _, _, _, _, rfl, rfl, List.length_map .., rfl⟩) (LookL.cons rfl (.inl ⟨rfl, rfl⟩) (LookL.cons rfl (.inl ⟨rfl, rfl⟩) (LookL.cons rfl (.inl ⟨rfl, rfl⟩) LookL.nil)))) (C.nils (NilL.eq (NilL.nl (NilL.eq (NilL.eq NilL.nil)))) (k_t _ _ _ _ _ _ hr10)) (by rintro _ _ ⟨rfl, rfl⟩; rfl) ?_
 rintro _ _ ⟨rfl, rfl⟩
 refine aV (.tup [I r10.1, I r10.2]) [_, _, _, _, _, _, _, _, _, _, _, _, _, _, _, _, _, _] Z Z ?_
 refine U 5 Z (Nx (Rg (U 2 Z (Bd h fun r11 hr11 h => ?_))))
 refine Qh (OpC.fn call21 rfl rfl rfl) (LookL.cons rfl (.inr ⟨_, _, _, _, _, rfl, rfl, List.length_map .., rfl⟩) (LookL.cons rfl (.inr ⟨_, _, _, _, _, rfl, rfl, List.length_map .., rfl⟩) (LookL.cons rfl (.inl ⟨rfl, rfl⟩) (LookL.cons rfl (.inl ⟨rfl, rfl⟩) LookL.nil)))) (k_bb _ _ _ _ _ _ hr11) (by rintro _ _ ⟨rfl, rfl⟩; rfl) ?_
 rintro _ _ ⟨rfl, rfl⟩
 refine aV (.tup [I r11.1, .bool r11.2]) [_, _, _, _, _, _, _, _, _, _, _, _, _, _, _, _, _, _] Z Z ?_
 refine U 5 Z (Nx (Rg (Bd h fun r12 hr12 h => ?_)))
 refine Qe [] (OpC.fn call21 Z Z Z) (C.nils (NilL.nl (NilL.nl (NilL.eq (NilL.eq NilL.nil)))) (k_bb _ _ _ _ _ _ hr12)) ?_
 rintro _ _ ⟨rfl, rfl⟩
 refine aV (.tup [I r12.1, .bool r12.2]) [_, _, _, _, _, _, _, _, _, _, _, _, _, _, _, _, _, _] Z Z ?_
 refine U 5 Z (Nx (TC.seq (Bd h fun b22 h23 h => ?_)))
 refine TC.cut ([(4, .osl 0 0 r7.1.length 2), (6, I r8.1), (7, I r8.2), (9, I r9.2), (11, I r10.2), (12, I r11.1), (13, .bool r11.2), (15, .bool r12.2), (16, .bool b22)]) ([.row 59 2 (List.map Pair.c r7.1)]) ?_ (fun env H hle => ?_)
 ·refine TC.region (U 3 Z (If h23 (fun hg24 h23 => ?_) (fun hg24 h23 => ?_)))
  ·refine Sg (gT hg24) Z ?_
   refine vX (I (r5.1.length : Int)) (Qbs runUnderlying38) ?_ (gT hg24)
   refine Sg (gT hg24) Z (Pk hg24 Z (U 1 Z (If h23 (fun hg25 h23 => ?_) (fun hg25 h23 => ?_))))
   ·refine Sg (gT hg25) Z (Bd h23 fun x26 hx26 h23 => ?_)
    refine vX (.ptr 10 (Int.toNat 0 * 8)) (Yo hx26 Z runUnderlying38 sizeOf50) ?_ (gT hg25)
    refine QG (gT hg25) QgV Z ?_
    refine vX (I x26.Bib) (OpV.load Z isAgg3 Z (QL hx26)) ?_ (gT hg25)
    refine Sg (gT hg25) Z (Pk hg25 Z (U 1 Z (If h23 (fun hg27 h23 => ?_) (fun hg27 h23 => ?_))))
    ·refine Sg (gT hg27) Z (Bd h23 fun x28 hx28 h23 => ?_)
     refine vX (.ptr 10 (Int.toNat 1 * 8)) (Yo hx28 Z runUnderlying38 sizeOf50) ?_ (gT hg27)
     refine QG (gT hg27) QgS Z ?_
     refine vX (I x28.Chip) (OpV.load Z isAgg3 Z (QhG hx28)) ?_ (gT hg27)
     refine Sg (gT hg27) Z (Pk hg27 Z (U 1 Z (If h23 (fun hg29 h23 => ?_) (fun hg29 h23 => ?_))))
     ·refine Sg (gT hg29) Z (Sg (gT hg29) Z (Pk hg29 Z (U 1 Z (If h23 (fun hg30 h23 => ?_) (fun hg30 h23 => ?_)))))
      ·refine Sg (gT hg30) Z ?_
       refine vX (I (r7.1.length : Int)) (Qbs runUnderlying42) ?_ (gT hg30)
       refine Sg (gT hg30) Z (Pk hg30 Z (U 1 Z (If h23 (fun hg31 h23 => ?_) (fun hg31 h23 => ?_))))
       ·refine Sg (gT hg31) Z (Bd h23 fun x32 hx32 h23 => ?_)
        refine vX (.ptr 17 (Int.toNat 0 * 2)) (Yo hx32 Z runUnderlying42 sizeOf59) ?_ (gT hg31)
        refine vX (.agg (Pair.c x32)) (Qi Z isAgg59 sizeOf59 Z (QL hx32) Z Z) ?_ (gT hg31)
        refine vX (.agg [I 3, I 5]) (OpV.build (zs := [I 0, I 0]) zeroValue59 (zrC Z) Qk1) ?_ (gT hg31)
        refine vX (.bool (x32 == ({ A := 3, B := 5 : Pair }))) (Qeg (p := x32) (q := { A := 3, B := 5 : Pair }) Qi8 Z Z) ?_ (gT hg31)
        refine Pk hg31 Z (U 1 Z (WO.nil ?_))
        obtain rfl := Oi h23
        exact cutN (Lr [17])
       ·refine KF hg31 Z (KF hg31 Z (KF hg31 Z (KF hg31 Z (KF hg31 Z (Pk hg31 Z (U 1 Z (WO.nil ?_)))))))
        obtain rfl := Oi h23
        exact cutN (Lr [17])
      ·refine KF hg30 Z (KF hg30 Z (KF hg30 Z (Pk hg30 Z (U 8 Z (WO.nil ?_)))))
       obtain rfl := Oi h23
       exact cutN (Lr [17])
     ·refine KF hg29 Z (KF hg29 Z (Pk hg29 Z (U 13 Z (WO.nil ?_))))
      obtain rfl := Oi h23
      exact cutN (Lr [17])
    ·refine KF hg27 Z (KF hg27 Z (KF hg27 Z (KF hg27 Z (KF hg27 Z (Pk hg27 Z (U 17 Z (WO.nil ?_)))))))
     obtain rfl := Oi h23
     exact cutN (Lr [17])
   ·refine KF hg25 Z (KF hg25 Z (KF hg25 Z (KF hg25 Z (KF hg25 Z (Pk hg25 Z (U 24 Z (WO.nil ?_)))))))
    obtain rfl := Oi h23
    exact cutN (Lr [17])
  ·refine KF hg24 Z (KF hg24 Z (KF hg24 Z (Pk hg24 Z (U 31 Z (WO.nil ?_)))))
   obtain rfl := Oi h23
   exact cutN (Lr [17])
 refine Qf (TC.le hle (TC.seq (Bd h fun b44 h45 h => ?_)))
 refine TC.cut ([(0, .bool b44)]) ([]) ?_ (fun env H hle => ?_)
 ·refine TC.region (U 2 Z (If h45 (fun hg46 h45 => ?_) (fun hg46 h45 => ?_)))
  ·refine Sg (gT hg46) Z (Bd h45 fun r47 hr47 h45 => ?_)
   refine Qh (OpC.fn call23 rfl rfl rfl) (LookL.cons rfl (.inr ⟨_, _, _, _, _, rfl, rfl, List.length_map .., rfl⟩) LookL.nil) (k_bt _ _ _ hr47) (by rintro _ _ ⟨rfl, rfl⟩; rfl) ?_ (gT hg46)
   rintro _ _ ⟨rfl, rfl⟩
   refine aV (I (IntKind.i64.wrap ((r7.1.length : Int) + 1))) [_] Z Z ?_
   refine Sg (gT hg46) Z (Pk hg46 Z (U 1 Z (If h45 (fun hg48 h45 => ?_) (fun hg48 h45 => ?_))))
   ·refine Bd h45 fun r49 hr49 h45 => ?_
    refine Qe [] (OpC.fn call23 Z Z Z) (C.nils (NilL.nl NilL.nil) (k_bt _ _ _ hr49)) ?_ (hg := (gT hg48))
    rintro _ _ ⟨rfl, rfl⟩
    refine Qgk (x := (I (IntKind.i64.wrap ((([] : List Pair).length : Int) + 1)))) (H := [_]) Z Z ?_
    refine Sg (gT hg48) Z (Pk hg48 Z (U 1 Z (If h45 (fun hg50 h45 => ?_) (fun hg50 h45 => ?_))))
    ·refine Sg (gT hg50) Z (Sg (gT hg50) Z (Pk hg50 Z (U 1 Z (If h45 (fun hg51 h45 => ?_) (fun hg51 h45 => ?_)))))
     ·refine Sg (gT hg51) Z (Sg (gT hg51) Z (Pk hg51 Z (U 1 Z (If h45 (fun hg52 h45 => ?_) (fun hg52 h45 => ?_)))))
      ·refine Sg (gT hg52) Z (Sg (gT hg52) Z (Pk hg52 Z (U 1 Z (If h45 (fun hg53 h45 => ?_) (fun hg53 h45 => ?_)))))
       ·refine Sg (gT hg53) Z (Sg (gT hg53) Z (Pk hg53 Z (U 1 Z (If h45 (fun hg54 h45 => ?_) (fun hg54 h45 => ?_)))))
        ·refine Sg (gT hg54) Z (Pk hg54 Z (U 1 Z (If h45 (fun hg55 h45 => ?_) (fun hg55 h45 => ?_))))
         ·refine Sg (gT hg55) Z (Sg (gT hg55) Z (Pk hg55 Z (U 1 Z (If h45 (fun hg56 h45 => ?_) (fun hg56 h45 => ?_)))))
          ·refine Sg (gT hg56) Z (Sg (gT hg56) Z (Pk hg56 Z (U 1 Z (WO.nil ?_))))
           obtain rfl := Oi h45
           exact cutN (Lr [])
          ·refine KF hg56 Z (KF hg56 Z (Pk hg56 Z (U 1 Z (WO.nil ?_))))
           obtain rfl := Oi h45
           exact cutN (Lr [])
         ·refine KF hg55 Z (KF hg55 Z (Pk hg55 Z (U 5 Z (WO.nil ?_))))
          obtain rfl := Oi h45
          exact cutN (Lr [])
        ·refine KF hg54 Z (Pk hg54 Z (U 9 Z (WO.nil ?_)))
         obtain rfl := Oi h45
         exact cutN (Lr [])
       ·refine KF hg53 Z (KF hg53 Z (Pk hg53 Z (U 12 Z (WO.nil ?_))))
        obtain rfl := Oi h45
        exact cutN (Lr [])
      ·refine KF hg52 Z (KF hg52 Z (Pk hg52 Z (U 16 Z (WO.nil ?_))))
       obtain rfl := Oi h45
       exact cutN (Lr [])
     ·refine KF hg51 Z (KF hg51 Z (Pk hg51 Z (U 20 Z (WO.nil ?_))))
      obtain rfl := Oi h45
      exact cutN (Lr [])
    ·refine KF hg50 Z (KF hg50 Z (Pk hg50 Z (U 24 Z (WO.nil ?_))))
     obtain rfl := Oi h45
     exact cutN (Lr [])
   ·refine KF hg48 Z (KF hg48 Z (Pk hg48 Z (U 28 Z (WO.nil ?_))))
    obtain rfl := Oi h45
    exact cutN (Lr [])
  ·refine KF hg46 Z (KF hg46 Z (KF hg46 Z (Pk hg46 Z (U 32 Z (WO.nil ?_)))))
   obtain rfl := Oi h45
   exact cutN (Lr [])
 refine Qf (TC.le hle (TC.ret ?_))
 obtain rfl := Oi h
 exact R1 0 Z (Lr [])
def F_dg (n : Nat) (a1 : List Part) (a2 : Int) (rec177 : (List Part) → Int → Option Int) (s20 : Int × Int) : Option (Ctl (Int × Int) Int) :=
  ((bif decide (s20.2 < (a1.length : Int)) then some (decide (s20.1 < 500)) else some false) : Option Bool).bind fun b24 => (bif b24 then (idx a1 s20.2).bind fun x28 => (rec177 x28.Parts (IntKind.i64.wrap (a2 + 1))).bind fun r29 => some (.cont (IntKind.i64.wrap (s20.1 + r29), IntKind.i64.wrap (s20.2 + 1))) else some (.done s20.1))
def B_i (rec177 : (List Part) → Int → Option Int) (n : Nat) (a1 : List Part) (a2 : Int) : Option Int :=
  (bif decide (20 < a2) then some 500 else (iter (F_dg n a1 a2 rec177) n ((a1.length : Int), 0) : Option Int).bind fun b17 => some b17)
theorem QaP (rec177 : (List Part) → Int → Option Int) (hrec177 : ∀ (a1 : List Part) (a2 : Int) (r : Int), rec177 a1 a2 = some r → C prog 31 [.rsl 3 (List.map Part.enc a1), I a2] [] (fun a H => a = I r ∧ H = [])) (n : Nat) (a1 : List Part) (a2 : Int) (r : Int) (h : B_i rec177 n a1 a2 = some r) :
    C prog 31 [.rsl 3 (List.map Part.enc a1), I a2] [] (fun a H => a = I r ∧ H = []) := by
 refine Qd func31 Z Z Z ?_
 refine Rg (U 1 Z (Nx (Rg (U 1 Z (LnM runUnderlying91 Z (U 1 Z (Nx (TC.seq (Rg (U 2 Z (Nx (Cn Z h (fun hc1 h => ?_) (fun hc1 h => ?_)))))))))))))
 ·refine Rg (U 1 Z (Nx (RtR ?_)))
  obtain rfl := Oi h
  exact R1 4 Z (Lr [])
 refine QU (TC.seq (Rg (U 1 Z (Nx (Bd h fun b17 h18 h => ?_)))))
 refine TC.cut ([(5, I b17)]) ([]) ?_ (fun env H hle => ?_)
 ·refine TC.block ?_
  refine TC.loop (E := fun s20 => [(0, .rsl 3 (List.map Part.enc a1)), (1, I a2), (5, I s20.1), (6, I s20.2)]) (Hp := fun s20 => []) h18 ?_ ?_
  ·exact Lr []
  intro s20 d21 h22 hb19
  refine TC.seq (TC.seq (Bd h22 fun b24 h25 h22 => ?_))
  refine TC.cut ([(0, .rsl 3 (List.map Part.enc a1)), (1, I a2), (5, I s20.1), (6, I s20.2), (18, .bool b24)]) ([]) ?_ (fun env H hle => ?_)
  ·refine TC.region (U 2 Z (LnM runUnderlying91 Z (U 2 Z (If h25 (fun hg26 h25 => ?_) (fun hg26 h25 => ?_)))))
   ·refine Sg (gT hg26) Z (Sg (gT hg26) Z (Pk hg26 Z (WO.nil ?_)))
    obtain rfl := Oi h25
    exact cutN (Lr [])
   ·refine KF hg26 Z (KF hg26 Z (Pk hg26 Z (WO.nil ?_)))
    obtain rfl := Oi h25
    exact cutN (Lr [])
  refine Qf (TC.le hle (CnS Z h22 (fun hc27 h22 => ?_) (fun hc27 h22 => ?_)))
  ·refine ExX (Qz h22 ?_)
   obtain rfl := hb19 _ (Oi h22).symm
   exact QQ (cutN (Lr []))
  refine QU (TC.seq (TC.block (TC.region (U 3 Z (Bd h22 fun x28 hx28 h22 => ?_)))))
  refine vX (.rp [I x28.Mat, I x28.Laps, .rsl 3 (List.map Part.enc x28.Parts)]) (Q7 (e := Part.enc) hx28 (YE x28) runUnderlying91 sizeOf125) ?_
  exact U 4 Z (Bd h22 fun r29 hr29 h22 => Pc [] Z (OpC.fn call31 Z Z Z) (hrec177 _ _ _ hr29) Z (U 2 Z (WO.nil (QD (Qf (TC.region (U 3 Z (WO.nil (Qu h22 (Lr []))))))))))
 refine Qf (TC.le hle (Rg (U 2 Z (Nx (TC.ret ?_)))))
 obtain rfl := Oi h
 exact R1 4 Z (Lr [])
def F_i : Nat → (List Part) → Int → Option Int
  | 0 => fun _ _ => none
  | n + 1 => B_i (F_i n) n
theorem k_i (n : Nat) : ∀ (a1 : List Part) (a2 : Int) (r : Int), F_i n a1 a2 = some r → C prog 31 [.rsl 3 (List.map Part.enc a1), I a2] [] (fun a H => a = I r ∧ H = []) := by
  induction n with
  | zero => intro a1 a2 r h; cases h
  | succ n ih => intro a1 a2 r h; exact QaP _ ih n a1 a2 r h
def F_dz (n : Nat) (a1 : List Cond) (a2 : Int) (rec179 : (List Cond) → Int → Option Int) (s20 : Int × Int) : Option (Ctl (Int × Int) Int) :=
  ((bif decide (s20.2 < (a1.length : Int)) then some (decide (s20.1 < 500)) else some false) : Option Bool).bind fun b24 => (bif b24 then (idx a1 s20.2).bind fun x28 => (rec179 x28.Parts (IntKind.i64.wrap (a2 + 1))).bind fun r29 => some (.cont (IntKind.i64.wrap (s20.1 + r29), IntKind.i64.wrap (s20.2 + 1))) else some (.done s20.1))
def B_g (rec179 : (List Cond) → Int → Option Int) (n : Nat) (a1 : List Cond) (a2 : Int) : Option Int :=
  (bif decide (20 < a2) then some 500 else (iter (F_dz n a1 a2 rec179) n ((a1.length : Int), 0) : Option Int).bind fun b17 => some b17)
theorem QaI (rec179 : (List Cond) → Int → Option Int) (hrec179 : ∀ (a1 : List Cond) (a2 : Int) (r : Int), rec179 a1 a2 = some r → C prog 52 [.rsl 4 (List.map Cond.enc a1), I a2] [] (fun a H => a = I r ∧ H = [])) (n : Nat) (a1 : List Cond) (a2 : Int) (r : Int) (h : B_g rec179 n a1 a2 = some r) :
    C prog 52 [.rsl 4 (List.map Cond.enc a1), I a2] [] (fun a H => a = I r ∧ H = []) := by
 refine Qd func52 Z Z Z ?_
 refine Rg (U 1 Z (Nx (Rg (U 1 Z (LnM runUnderlying128 Z (U 1 Z (Nx (TC.seq (Rg (U 2 Z (Nx (Cn Z h (fun hc1 h => ?_) (fun hc1 h => ?_)))))))))))))
 ·refine Rg (U 1 Z (Nx (RtR ?_)))
  obtain rfl := Oi h
  exact R1 4 Z (Lr [])
 refine QU (TC.seq (Rg (U 1 Z (Nx (Bd h fun b17 h18 h => ?_)))))
 refine TC.cut ([(5, I b17)]) ([]) ?_ (fun env H hle => ?_)
 ·refine TC.block ?_
  refine TC.loop (E := fun s20 => [(0, .rsl 4 (List.map Cond.enc a1)), (1, I a2), (5, I s20.1), (6, I s20.2)]) (Hp := fun s20 => []) h18 ?_ ?_
  ·exact Lr []
  intro s20 d21 h22 hb19
  refine TC.seq (TC.seq (Bd h22 fun b24 h25 h22 => ?_))
  refine TC.cut ([(0, .rsl 4 (List.map Cond.enc a1)), (1, I a2), (5, I s20.1), (6, I s20.2), (18, .bool b24)]) ([]) ?_ (fun env H hle => ?_)
  ·refine TC.region (U 2 Z (LnM runUnderlying128 Z (U 2 Z (If h25 (fun hg26 h25 => ?_) (fun hg26 h25 => ?_)))))
   ·refine Sg (gT hg26) Z (Sg (gT hg26) Z (Pk hg26 Z (WO.nil ?_)))
    obtain rfl := Oi h25
    exact cutN (Lr [])
   ·refine KF hg26 Z (KF hg26 Z (Pk hg26 Z (WO.nil ?_)))
    obtain rfl := Oi h25
    exact cutN (Lr [])
  refine Qf (TC.le hle (CnS Z h22 (fun hc27 h22 => ?_) (fun hc27 h22 => ?_)))
  ·refine ExX (Qz h22 ?_)
   obtain rfl := hb19 _ (Oi h22).symm
   exact QQ (cutN (Lr []))
  refine QU (TC.seq (TC.block (TC.region (U 3 Z (Bd h22 fun x28 hx28 h22 => ?_)))))
  refine vX (.rp [I x28.Kind, I x28.Var, I x28.N, .rsl 4 (List.map Cond.enc x28.Parts)]) (Q7 (e := Cond.enc) hx28 (Qam x28) runUnderlying128 sizeOf130) ?_
  exact U 4 Z (Bd h22 fun r29 hr29 h22 => Pc [] Z (OpC.fn call52 Z Z Z) (hrec179 _ _ _ hr29) Z (U 2 Z (WO.nil (QD (Qf (TC.region (U 3 Z (WO.nil (Qu h22 (Lr []))))))))))
 refine Qf (TC.le hle (Rg (U 2 Z (Nx (TC.ret ?_)))))
 obtain rfl := Oi h
 exact R1 4 Z (Lr [])
def F_g : Nat → (List Cond) → Int → Option Int
  | 0 => fun _ _ => none
  | n + 1 => B_g (F_g n) n
theorem k_g (n : Nat) : ∀ (a1 : List Cond) (a2 : Int) (r : Int), F_g n a1 a2 = some r → C prog 52 [.rsl 4 (List.map Cond.enc a1), I a2] [] (fun a H => a = I r ∧ H = []) := by
  induction n with
  | zero => intro a1 a2 r h; cases h
  | succ n ih => intro a1 a2 r h; exact QaI _ ih n a1 a2 r h
def F_eb (n : Nat) (a1 : List Step) (a2 : Int) (rec178 : (List Step) → Int → Option Int) (s28 : Int × Int) : Option (Ctl (Int × Int) Int) :=
  ((bif decide (s28.2 < (a1.length : Int)) then some (decide (s28.1 < 500)) else some false) : Option Bool).bind fun b32 => (bif b32 then (idx a1 s28.2).bind fun x36 => (F_g n [x36.Cond] 0).bind fun r37 => (idx a1 s28.2).bind fun x38 => (rec178 x38.Then (IntKind.i64.wrap (a2 + 1))).bind fun r39 => (idx a1 s28.2).bind fun x40 => (rec178 x40.Else (IntKind.i64.wrap (a2 + 1))).bind fun r41 => some (.cont (IntKind.i64.wrap ((IntKind.i64.wrap ((IntKind.i64.wrap (s28.1 + r37)) + r39)) + r41), IntKind.i64.wrap (s28.2 + 1))) else some (.done s28.1))
def B_h (rec178 : (List Step) → Int → Option Int) (n : Nat) (a1 : List Step) (a2 : Int) : Option Int :=
  (bif decide (20 < a2) then some 500 else (iter (F_eb n a1 a2 rec178) n ((a1.length : Int), 0) : Option Int).bind fun b25 => some b25)
theorem QaH (rec178 : (List Step) → Int → Option Int) (hrec178 : ∀ (a1 : List Step) (a2 : Int) (r : Int), rec178 a1 a2 = some r → C prog 32 [.rsl 8 (List.map Step.enc a1), I a2] [] (fun a H => a = I r ∧ H = [])) (n : Nat) (a1 : List Step) (a2 : Int) (r : Int) (h : B_h rec178 n a1 a2 = some r) :
    C prog 32 [.rsl 8 (List.map Step.enc a1), I a2] [] (fun a H => a = I r ∧ H = []) := by
 refine Qd func32 Z Z Z ?_
 refine Rg (U 1 Z (Nx (Rg (U 1 Z (LnM runUnderlying29 Z (U 1 Z (Nx (TC.seq (Rg (U 2 Z (Nx (Cn Z h (fun hc1 h => ?_) (fun hc1 h => ?_)))))))))))))
 ·refine Rg (U 1 Z (Nx (RtR ?_)))
  obtain rfl := Oi h
  exact R1 4 Z (Lr [])
 refine QU (TC.seq (Rg (U 1 Z (Nx (Bd h fun b25 h26 h => ?_)))))
 refine TC.cut ([(5, I b25)]) ([]) ?_ (fun env H hle => ?_)
 ·refine TC.block ?_
  refine TC.loop (E := fun s28 => [(0, .rsl 8 (List.map Step.enc a1)), (1, I a2), (5, I s28.1), (6, I s28.2)]) (Hp := fun s28 => []) h26 ?_ ?_
  ·exact Lr []
  intro s28 d29 h30 hb27
  refine TC.seq (TC.seq (Bd h30 fun b32 h33 h30 => ?_))
  refine TC.cut ([(0, .rsl 8 (List.map Step.enc a1)), (1, I a2), (5, I s28.1), (6, I s28.2), (18, .bool b32)]) ([]) ?_ (fun env H hle => ?_)
  ·refine TC.region (U 2 Z (LnM runUnderlying29 Z (U 2 Z (If h33 (fun hg34 h33 => ?_) (fun hg34 h33 => ?_)))))
   ·refine Sg (gT hg34) Z (Sg (gT hg34) Z (Pk hg34 Z (WO.nil ?_)))
    obtain rfl := Oi h33
    exact cutN (Lr [])
   ·refine KF hg34 Z (KF hg34 Z (Pk hg34 Z (WO.nil ?_)))
    obtain rfl := Oi h33
    exact cutN (Lr [])
  refine Qf (TC.le hle (CnS Z h30 (fun hc35 h30 => ?_) (fun hc35 h30 => ?_)))
  ·refine ExX (Qz h30 ?_)
   obtain rfl := hb27 _ (Oi h30).symm
   exact QQ (cutN (Lr []))
  refine QU (TC.seq (TC.block ?_))
  obtain ⟨x36, hx36, h30⟩ := bnd h30
  obtain ⟨r37, hr37, h30⟩ := bnd h30
  obtain ⟨x38, hx38, h30⟩ := bnd h30
  obtain ⟨r39, hr39, h30⟩ := bnd h30
  obtain ⟨x40, hx40, h30⟩ := bnd h30
  obtain ⟨r41, hr41, h30⟩ := bnd h30
  refine TC.draw0 26 [21, 22, 23, 24, 25, 26, 27, 28, 29, 30, 31, 32, 33, 34, 35, 36, 37, 38, 39, 40, 41, 42, 43, 44, 45, 46] [I s28.1, .rsl 8 (List.map Step.enc a1), I s28.2, .rp [I x36.Kind, I x36.By, I x36.Cond.Kind, I x36.Cond.Var, I x36.Cond.N, .rsl 4 (List.map Cond.enc x36.Cond.Parts), .rsl 8 (List.map Step.enc x36.Then), .rsl 8 (List.map Step.enc x36.Else)], .rp [I x36.Cond.Kind, I x36.Cond.Var, I x36.Cond.N, .rsl 4 (List.map Cond.enc x36.Cond.Parts), .rsl 8 (List.map Step.enc x36.Then), .rsl 8 (List.map Step.enc x36.Else)], .agg (Cond.c x36.Cond), .rsl 4 (List.map Cond.enc [x36.Cond]), I r37, I (IntKind.i64.wrap (s28.1 + r37)), .rsl 8 (List.map Step.enc a1), I s28.2, .rp [I x38.Kind, I x38.By, I x38.Cond.Kind, I x38.Cond.Var, I x38.Cond.N, .rsl 4 (List.map Cond.enc x38.Cond.Parts), .rsl 8 (List.map Step.enc x38.Then), .rsl 8 (List.map Step.enc x38.Else)], .rp [.rsl 8 (List.map Step.enc x38.Then), .rsl 8 (List.map Step.enc x38.Else)], .rsl 8 (List.map Step.enc x38.Then), I a2, I (IntKind.i64.wrap (a2 + 1)), I r39, I (IntKind.i64.wrap ((IntKind.i64.wrap (s28.1 + r37)) + r39)), .rsl 8 (List.map Step.enc a1), I s28.2, .rp [I x40.Kind, I x40.By, I x40.Cond.Kind, I x40.Cond.Var, I x40.Cond.N, .rsl 4 (List.map Cond.enc x40.Cond.Parts), .rsl 8 (List.map Step.enc x40.Then), .rsl 8 (List.map Step.enc x40.Else)], .rp [.rsl 8 (List.map Step.enc x40.Else)], .rsl 8 (List.map Step.enc x40.Else), I a2, I (IntKind.i64.wrap (a2 + 1)), I r41] draws Z Z Z ?_ ?_
  ·refine ov (ov (ov (Oq.c ?_ (ov (ov (Oq.c ?_ (Oq.c ?_ (Oq.c ?_ (ov (ov (Oq.c ?_ (ov (ov (ov (Oq.c ?_ (Oq.c ?_ (Oq.c ?_ (ov (ov (Oq.c ?_ (ov (ov (ov (Oq.c ?_ (Oq.c ?_ (Oq.n))))))))))))))))))))))))))
   ·refine Om Z (sD 1 (sD 2 sN)) ?_
    refine vX (.rp [I x36.Kind, I x36.By, I x36.Cond.Kind, I x36.Cond.Var, I x36.Cond.N, .rsl 4 (List.map Cond.enc x36.Cond.Parts), .rsl 8 (List.map Step.enc x36.Then), .rsl 8 (List.map Step.enc x36.Else)]) (Q7 (e := Step.enc) hx36 (Ym x36) runUnderlying29 sizeOf132) ?_
    exact Wp
   ·refine Om Z (sD 5 sN) ?_
    refine vH (QX (xs := [.tmp 26]) (es := [Cond.c x36.Cond]) QlT Z Z Z Z Z ⟨Z, trivial⟩ Z Z) ?_
    refine Qgk (x := (.rsl 4 (List.map Cond.enc [x36.Cond]))) (H := []) (by simp [Qam]) Z ?_
    exact Wp
   ·refine Om Z (sD 6 sN) ?_
    exact Pc [] Z (OpC.fn call52 Z Z Z) (k_g _ _ _ _ hr37) Z Wp
   ·refine Om Z (sD 0 (sD 7 sN)) ?_
    exact S Z Wp
   ·refine Om Z (sD 9 (sD 10 sN)) ?_
    refine vX (.rp [I x38.Kind, I x38.By, I x38.Cond.Kind, I x38.Cond.Var, I x38.Cond.N, .rsl 4 (List.map Cond.enc x38.Cond.Parts), .rsl 8 (List.map Step.enc x38.Then), .rsl 8 (List.map Step.enc x38.Else)]) (Q7 (e := Step.enc) hx38 (Ym x38) runUnderlying29 sizeOf132) ?_
    exact Wp
   ·refine Om Z (sD 14 sN) ?_
    exact S Z Wp
   ·refine Om Z (sD 13 (sD 15 sN)) ?_
    exact Pc [] Z (OpC.fn call32 Z Z Z) (hrec178 _ _ _ hr39) Z Wp
   ·refine Om Z (sD 8 (sD 16 sN)) ?_
    exact S Z Wp
   ·refine Om Z (sD 18 (sD 19 sN)) ?_
    refine vX (.rp [I x40.Kind, I x40.By, I x40.Cond.Kind, I x40.Cond.Var, I x40.Cond.N, .rsl 4 (List.map Cond.enc x40.Cond.Parts), .rsl 8 (List.map Step.enc x40.Then), .rsl 8 (List.map Step.enc x40.Else)]) (Q7 (e := Step.enc) hx40 (Ym x40) runUnderlying29 sizeOf132) ?_
    exact Wp
   ·refine Om Z (sD 23 sN) ?_
    exact S Z Wp
   ·refine Om Z (sD 22 (sD 24 sN)) ?_
    exact Pc [] Z (OpC.fn call32 Z Z Z) (hrec178 _ _ _ hr41) Z Wp
  exact U 2 Z (WO.nil (QD (Qf (TC.region (U 3 Z (WO.nil (Qu h30 (Lr []))))))))
 refine Qf (TC.le hle (Rg (U 2 Z (Nx (TC.ret ?_)))))
 obtain rfl := Oi h
 exact R1 4 Z (Lr [])
def F_h : Nat → (List Step) → Int → Option Int
  | 0 => fun _ _ => none
  | n + 1 => B_h (F_h n) n
theorem k_h (n : Nat) : ∀ (a1 : List Step) (a2 : Int) (r : Int), F_h n a1 a2 = some r → C prog 32 [.rsl 8 (List.map Step.enc a1), I a2] [] (fun a H => a = I r ∧ H = []) := by
  induction n with
  | zero => intro a1 a2 r h; cases h
  | succ n ih => intro a1 a2 r h; exact QaH _ ih n a1 a2 r h
def F_cy (n : Nat) (a1 : Course) (s37 : Int) : Option (Ctl Int (Ctl Unit Bool)) :=
  (bif decide (s37 < (a1.Distances.length : Int)) then ((idx a1.Distances s37).bind fun x49 => (F_i n x49.Route 0).bind fun r50 => (bif decide (24 < r50) then some true else (idx a1.Distances s37).bind fun x52 => (bif decide (12 < (x52.Cutoffs.length : Int)) then some true else (idx a1.Distances s37).bind fun x54 => some (decide (60 < (x54.Name.length : Int))))) : Option Bool).bind fun b47 => (bif b47 then some (.done (.done false)) else some (.cont (IntKind.i64.wrap (s37 + 1)))) else some (.done (.cont ())))
def F_fk (n : Nat) (a1 : Course) (s66 : Int) : Option (Ctl Int (Ctl Unit Bool)) :=
  (bif decide (s66 < (a1.Mats.length : Int)) then (idx a1.Mats s66).bind fun x70 => (bif decide (60 < (x70.Name.length : Int)) then some (.done (.done false)) else some (.cont (IntKind.i64.wrap (s66 + 1)))) else some (.done (.cont ())))
def F_x (n : Nat) (a1 : Course) : Option Bool :=
  (iter (F_cy n a1) n 0 : Option (Ctl Unit Bool)).bind fun b34 => match b34 with | .cont sb34 => ((iter (F_fk n a1) n 0 : Option (Ctl Unit Bool)).bind fun b63 => match b63 with | .cont sb63 => (((bif decide (12 < (a1.Mats.length : Int)) then some true else (bif decide (30 < (a1.Legs.length : Int)) then some true else (bif decide (4 < (a1.Distances.length : Int)) then some true else (bif decide (6 < (a1.Waves.length : Int)) then some true else (bif decide (6 < (a1.Offences.length : Int)) then some true else (bif decide (6 < (a1.Categories.length : Int)) then some true else (bif decide (6 < (a1.Prizes.length : Int)) then some true else some (decide (60 < (a1.Name.length : Int)))))))))) : Option Bool).bind fun b79 => (bif b79 then some false else (F_h n a1.Ties 0).bind fun r89 => some (decide (r89 ≤ 100)))) | .done sb63 => some sb63) | .done sb34 => some sb34
theorem k_x (n : Nat) (a1 : Course) (r : Bool) (h : F_x n a1 = some r) :
    C prog 11 [.agg (Course.c a1)] [] (fun a H => a = .bool r ∧ H = []) := by
 refine Qd func11 Z Z Z ?_
 refine Rg (U 2 Z (Nx (TC.seq (Rg (U 1 Z (Nx (Bd h fun b34 h35 h => ?_)))))))
 refine Qy (b := b34) (fun sb34 => [(1, .ptr 0 0)]) (fun sb34 => [.cells 33 (Course.c a1)]) ?_ (fun sb34 env H hbe hle => ?_)
 ·refine TC.block ?_
  refine TC.loop (E := fun s37 => [(1, .ptr 0 0), (3, I s37)]) (Hp := fun s37 => [.cells 33 (Course.c a1)]) h35 ?_ ?_
  ·exact Lr [0]
  intro s37 d38 h39 hb36
  refine TC.seq (Rg (U 3 Z (LnM runUnderlying24 Z (U 1 Z (Nx (CnS Z h39 (fun hc40 h39 => ?_) (fun hc40 h39 => ?_)))))))
  ·refine ExX (Qz h39 ?_)
   obtain rfl := hb36 _ (Oi h39).symm
   exact QQ (Qx Z (Lr [0]))
  refine QU (TC.seq (TC.block (TC.seq (Bd h39 fun b47 h48 h39 => ?_))))
  refine TC.cut ([(1, .ptr 0 0), (3, I s37), (39, .bool b47)]) ([.cells 33 (Course.c a1)]) ?_ (fun env H hle => ?_)
  ·refine TC.region (U 3 Z (Bd h48 fun x49 hx49 h48 => Ix hx49 runUnderlying24 sizeOf94 Z (U 2 Z (Bd h48 fun r50 hr50 h48 => Pc [] Z (OpC.fn call31 Z Z Z) (k_i _ _ _ _ hr50) Z (U 2 Z (If h48 (fun hg51 h48 => ?_) (fun hg51 h48 => ?_)))))))
   ·refine KF hg51 Z (KF hg51 Z (KF hg51 Z (KF hg51 Z (KF hg51 Z (KF hg51 Z (KF hg51 Z (KF hg51 Z (Pk hg51 Z (U 10 Z (WO.nil ?_))))))))))
    obtain rfl := Oi h48
    exact cutN (Lr [0])
   ·refine QG (gT hg51) QaF Z (QO (gT hg51) isAgg24 Z (Sg (gT hg51) Z (Bd h48 fun x52 hx52 h48 => ?_)))
    refine vX (.rp [.str x52.Name, .rsl 3 (List.map Part.enc x52.Route), I x52.Timing, .rsl 3 (List.map Cutoff.c x52.Cutoffs), I x52.Extra]) (Qb9 (e := Distance.c) (l := a1.Distances) (v := x52) hx52 runUnderlying24 sizeOf94) ?_ (gT hg51)
    refine Frg (gT hg51) QeA Z (QO (gT hg51) isAgg92 Z ?_)
    refine vX (I (x52.Cutoffs.length : Int)) (Qk (e := Cutoff.c) (l := x52.Cutoffs) runUnderlying92) ?_ (gT hg51)
    refine Sg (gT hg51) Z (Pk hg51 Z (U 1 Z (If h48 (fun hg53 h48 => ?_) (fun hg53 h48 => ?_))))
    ·refine KF hg53 Z (KF hg53 Z (KF hg53 Z (KF hg53 Z (KF hg53 Z (KF hg53 Z (KF hg53 Z (KF hg53 Z (Pk hg53 Z (WO.nil ?_)))))))))
     obtain rfl := Oi h48
     exact cutN (Lr [0])
    ·refine QG (gT hg53) QaF Z (QO (gT hg53) isAgg24 Z (Sg (gT hg53) Z (Bd h48 fun x54 hx54 h48 => ?_)))
     refine vX (.rp [.str x54.Name, .rsl 3 (List.map Part.enc x54.Route), I x54.Timing, .rsl 3 (List.map Cutoff.c x54.Cutoffs), I x54.Extra]) (Qb9 (e := Distance.c) (l := a1.Distances) (v := x54) hx54 runUnderlying24 sizeOf94) ?_ (gT hg53)
     refine Frg (gT hg53) QgP Z (QO (gT hg53) isAgg9 Z ?_)
     refine vX (I (x54.Name.length : Int)) (YA Z Z runUnderlying9 Z) ?_ (gT hg53)
     refine Sg (gT hg53) Z (Pk hg53 Z (WO.nil ?_))
     obtain rfl := Oi h48
     exact cutN (Lr [0])
  refine Qf (TC.le hle (Cn Z h39 (fun hc55 h39 => ?_) (fun hc55 h39 => ?_)))
  ·refine Rg (U 1 Z (Nx (TC.ret (Qm (Ql (QV h39 ?_))))))
   obtain rfl := hb36 _ (Oi h39).symm
   refine Qm (QF (Ql ?_))
   obtain rfl := Oi h
   exact R1 2 Z (Lr [])
  exact TC.skip (QD (Qf (TC.region (U 3 Z (WO.nil (Qu h39 (Lr [0])))))))
 subst hbe
 refine Qf (TC.le hle (TC.seq (Rg (U 1 Z (Nx (Bd h fun b63 h64 h => ?_))))))
 refine Qy (b := b63) (fun sb63 => [(1, .ptr 0 0)]) (fun sb63 => [.cells 33 (Course.c a1)]) ?_ (fun sb63 env H hbe hle => ?_)
 ·refine TC.block ?_
  refine TC.loop (E := fun s66 => [(1, .ptr 0 0), (4, I s66)]) (Hp := fun s66 => [.cells 33 (Course.c a1)]) h64 ?_ ?_
  ·exact Lr [0]
  intro s66 d67 h68 hb65
  refine TC.seq (Rg (U 3 Z (LnM runUnderlying22 Z (U 1 Z (Nx (CnS Z h68 (fun hc69 h68 => ?_) (fun hc69 h68 => ?_)))))))
  ·refine ExX (Qz h68 ?_)
   obtain rfl := hb65 _ (Oi h68).symm
   exact QQ (Qx Z (Lr [0]))
  refine QU (TC.seq (TC.block (Rg (U 3 Z (Bd h68 fun x70 hx70 h68 => Ix hx70 runUnderlying22 sizeOf96 Z (U 2 Z ?_))))))
  refine vX (I (x70.Name.length : Int)) (YA Z Z runUnderlying9 Z) ?_
  refine U 1 Z (Nx (Cn Z h68 (fun hc71 h68 => ?_) (fun hc71 h68 => ?_)))
  ·refine Rg (U 1 Z (Nx (TC.ret (Qm (Ql (QV h68 ?_))))))
   obtain rfl := hb65 _ (Oi h68).symm
   refine Qm (QF (Ql ?_))
   obtain rfl := Oi h
   exact R1 2 Z (Lr [])
  exact TC.skip (QD (Qf (TC.region (U 3 Z (WO.nil (Qu h68 (Lr [0])))))))
 subst hbe
 refine Qf (TC.le hle (TC.seq (TC.seq (Bd h fun b79 h80 h => ?_))))
 refine TC.cut ([(1, .ptr 0 0), (100, .bool b79)]) ([.cells 33 (Course.c a1)]) ?_ (fun env H hle => ?_)
 ·refine TC.region (U 2 Z (LnM runUnderlying22 Z (U 2 Z (If h80 (fun hg81 h80 => ?_) (fun hg81 h80 => ?_)))))
  ·refine KF hg81 Z (KF hg81 Z (KF hg81 Z (KF hg81 Z (Pk hg81 Z (U 36 Z (WO.nil ?_))))))
   obtain rfl := Oi h80
   exact cutN (Lr [0])
  ·refine QG (gT hg81) QbX Z (QO (gT hg81) isAgg23 Z ?_)
   refine vX (I (a1.Legs.length : Int)) (Qk (e := Leg.c) (l := a1.Legs) runUnderlying23) ?_ (gT hg81)
   refine Sg (gT hg81) Z (Pk hg81 Z (U 1 Z (If h80 (fun hg82 h80 => ?_) (fun hg82 h80 => ?_))))
   ·refine KF hg82 Z (KF hg82 Z (KF hg82 Z (KF hg82 Z (Pk hg82 Z (U 30 Z (WO.nil ?_))))))
    obtain rfl := Oi h80
    exact cutN (Lr [0])
   ·refine QG (gT hg82) QaF Z (QO (gT hg82) isAgg24 Z ?_)
    refine vX (I (a1.Distances.length : Int)) (Qk (e := Distance.c) (l := a1.Distances) runUnderlying24) ?_ (gT hg82)
    refine Sg (gT hg82) Z (Pk hg82 Z (U 1 Z (If h80 (fun hg83 h80 => ?_) (fun hg83 h80 => ?_))))
    ·refine KF hg83 Z (KF hg83 Z (KF hg83 Z (KF hg83 Z (Pk hg83 Z (U 24 Z (WO.nil ?_))))))
     obtain rfl := Oi h80
     exact cutN (Lr [0])
    ·refine QG (gT hg83) QbW Z (QO (gT hg83) isAgg25 Z ?_)
     refine vX (I (a1.Waves.length : Int)) (Qk (e := Wave.c) (l := a1.Waves) runUnderlying25) ?_ (gT hg83)
     refine Sg (gT hg83) Z (Pk hg83 Z (U 1 Z (If h80 (fun hg84 h80 => ?_) (fun hg84 h80 => ?_))))
     ·refine KF hg84 Z (KF hg84 Z (KF hg84 Z (KF hg84 Z (Pk hg84 Z (U 18 Z (WO.nil ?_))))))
      obtain rfl := Oi h80
      exact cutN (Lr [0])
     ·refine QG (gT hg84) QcW Z (QO (gT hg84) isAgg26 Z ?_)
      refine vX (I (a1.Offences.length : Int)) (Qk (e := Offence.c) (l := a1.Offences) runUnderlying26) ?_ (gT hg84)
      refine Sg (gT hg84) Z (Pk hg84 Z (U 1 Z (If h80 (fun hg85 h80 => ?_) (fun hg85 h80 => ?_))))
      ·refine KF hg85 Z (KF hg85 Z (KF hg85 Z (KF hg85 Z (Pk hg85 Z (U 12 Z (WO.nil ?_))))))
       obtain rfl := Oi h80
       exact cutN (Lr [0])
      ·refine QG (gT hg85) QbV Z (QO (gT hg85) isAgg27 Z ?_)
       refine vX (I (a1.Categories.length : Int)) (Qk (e := Category.c) (l := a1.Categories) runUnderlying27) ?_ (gT hg85)
       refine Sg (gT hg85) Z (Pk hg85 Z (U 1 Z (If h80 (fun hg86 h80 => ?_) (fun hg86 h80 => ?_))))
       ·refine KF hg86 Z (KF hg86 Z (KF hg86 Z (KF hg86 Z (Pk hg86 Z (U 6 Z (WO.nil ?_))))))
        obtain rfl := Oi h80
        exact cutN (Lr [0])
       ·refine QG (gT hg86) QcV Z (QO (gT hg86) isAgg28 Z ?_)
        refine vX (I (a1.Prizes.length : Int)) (Qk (e := Prize.c) (l := a1.Prizes) runUnderlying28) ?_ (gT hg86)
        refine Sg (gT hg86) Z (Pk hg86 Z (U 1 Z (If h80 (fun hg87 h80 => ?_) (fun hg87 h80 => ?_))))
        ·refine KF hg87 Z (KF hg87 Z (KF hg87 Z (KF hg87 Z (Pk hg87 Z (WO.nil ?_)))))
         obtain rfl := Oi h80
         exact cutN (Lr [0])
        ·refine QG (gT hg87) QgW Z (QO (gT hg87) isAgg9 Z ?_)
         refine vX (I (a1.Name.length : Int)) (YA Z Z runUnderlying9 Z) ?_ (gT hg87)
         refine Sg (gT hg87) Z (Pk hg87 Z (WO.nil ?_))
         obtain rfl := Oi h80
         exact cutN (Lr [0])
 refine Qf (TC.le hle (Cn Z h (fun hc88 h => ?_) (fun hc88 h => ?_)))
 ·refine Rg (U 1 Z (Nx (RtR ?_)))
  obtain rfl := Oi h
  exact R1 2 Z (Lr [])
 refine QU (Rg (U 2 Z (Bd h fun r89 hr89 h => Pc [] Z (OpC.fn call32 Z Z Z) (k_h _ _ _ _ hr89) Z (U 2 Z (Nx (TC.ret ?_))))))
 obtain rfl := Oi h
 exact R1 2 Z (Lr [])
def F_fd (n : Nat) (a1 : List Fact) (a2 : Int) : Option Unit :=
  some ()
theorem k_fd (n : Nat) (a1 : List Fact) (a2 : Int) (r : Unit) (h : F_fd n a1 a2 = some r) :
    C prog 12 [.rsl 57 (List.map Fact.c a1), I a2] [] (fun a H => a = .bool (decide ((a1.length : Int) ≤ a2)) ∧ H = []) := by
 refine Qd func12 Z Z Z ?_
 refine Rg (U 1 Z (Nx (Rg (U 1 Z (LnM runUnderlying34 Z (U 3 Z (Nx (TC.ret ?_))))))))
 obtain rfl := Oi h
 exact R1 4 Z (Lr [])
def F_fx (n : Nat) (a1 : List Starter) (a2 : List Starter) (s14 : Int) : Option (Ctl Int (Ctl Unit Bool)) :=
  (bif decide (s14 < (a1.length : Int)) then (idx a1 s14).bind fun x18 => (idx a2 s14).bind fun x19 => (bif (x18 != x19) then some (.done (.done false)) else some (.cont (IntKind.i64.wrap (s14 + 1)))) else some (.done (.cont ())))
def F_cu (n : Nat) (a1 : List Starter) (a2 : List Starter) : Option Bool :=
  (bif ((a1.length : Int) != (a2.length : Int)) then some false else (iter (F_fx n a1 a2) n 0 : Option (Ctl Unit Bool)).bind fun b11 => match b11 with | .cont sb11 => (some true) | .done sb11 => some sb11)
theorem k_cu (n : Nat) (a1 : List Starter) (a2 : List Starter) (r : Bool) (h : F_cu n a1 a2 = some r) :
    C prog 17 [.rsl 8 (List.map Starter.c a1), .rsl 8 (List.map Starter.c a2)] [] (fun a H => a = .bool r ∧ H = []) := by
 refine Qd func17 Z Z Z ?_
 refine Rg (U 1 Z (Nx (TC.seq (Rg (U 1 Z (LnM runUnderlying38 Z (U 1 Z (LnM runUnderlying38 Z (U 1 Z (Nx (Cn Z h (fun hc1 h => ?_) (fun hc1 h => ?_))))))))))))
 ·refine Rg (U 1 Z (Nx (RtR ?_)))
  obtain rfl := Oi h
  exact R1 4 Z (Lr [])
 refine QU (TC.seq (Rg (U 1 Z (Nx (Bd h fun b11 h12 h => ?_)))))
 refine Qy (b := b11) (fun sb11 => []) (fun sb11 => []) ?_ (fun sb11 env H hbe hle => ?_)
 ·refine TC.block ?_
  refine TC.loop (E := fun s14 => [(0, .rsl 8 (List.map Starter.c a1)), (1, .rsl 8 (List.map Starter.c a2)), (5, I s14)]) (Hp := fun s14 => []) h12 ?_ ?_
  ·exact Lr []
  intro s14 d15 h16 hb13
  refine TC.seq (Rg (U 2 Z (LnM runUnderlying38 Z (U 1 Z (Nx (CnS Z h16 (fun hc17 h16 => ?_) (fun hc17 h16 => ?_)))))))
  ·refine ExX (Qz h16 ?_)
   obtain rfl := hb13 _ (Oi h16).symm
   exact QQ (Qx Z (Lr []))
  refine QU (TC.seq (TC.block (TC.seq ?_)))
  obtain ⟨x18, hx18, h16⟩ := bnd h16
  obtain ⟨x19, hx19, h16⟩ := bnd h16
  refine TC.draw0 8 [17, 18, 19, 20, 21, 22, 23, 24] [.rsl 8 (List.map Starter.c a1), I s14, .rp [I x18.Bib, I x18.Distance, I x18.Wave, I x18.Slot, I x18.Age, I x18.Chip, I x18.Team, I x18.Lot], .agg (Starter.c x18), .rsl 8 (List.map Starter.c a2), I s14, .rp [I x19.Bib, I x19.Distance, I x19.Wave, I x19.Slot, I x19.Age, I x19.Chip, I x19.Team, I x19.Lot], .agg (Starter.c x19)] draws Z Z Z ?_ ?_
  ·refine ov (ov (Oq.c ?_ (ov (ov (ov (Oq.c ?_ (ov (Oq.n))))))))
   ·refine Om Z (sD 0 (sD 1 sN)) ?_
    exact Ix hx18 runUnderlying38 sizeOf50 Z Wp
   ·refine Om Z (sD 4 (sD 5 sN)) ?_
    exact Ix hx19 runUnderlying38 sizeOf50 Z Wp
  refine vX (.bool (x18 != x19)) (Qef (p := x18) (q := x19) QlS Z Z) ?_
  refine Nx (Cn Z h16 (fun hc20 h16 => ?_) (fun hc20 h16 => ?_))
  ·refine Rg (U 1 Z (Nx (TC.ret (Qm (Ql (QV h16 ?_))))))
   obtain rfl := hb13 _ (Oi h16).symm
   refine Qm (QF (Ql ?_))
   obtain rfl := Oi h
   exact R1 4 Z (Lr [])
  exact TC.skip (QD (Qf (TC.region (U 3 Z (WO.nil (Qu h16 (Lr [])))))))
 subst hbe
 refine Qf (TC.le hle (Rg (U 1 Z (Nx (TC.ret ?_)))))
 obtain rfl := Oi h
 exact R1 4 Z (Lr [])
def F_fz (n : Nat) (a1 : List Pair) (a2 : List Pair) (s14 : Int) : Option (Ctl Int (Ctl Unit Bool)) :=
  (bif decide (s14 < (a1.length : Int)) then (idx a1 s14).bind fun x18 => (idx a2 s14).bind fun x19 => (bif (x18 != x19) then some (.done (.done false)) else some (.cont (IntKind.i64.wrap (s14 + 1)))) else some (.done (.cont ())))
def F_ds (n : Nat) (a1 : List Pair) (a2 : List Pair) : Option Bool :=
  (bif ((a1.length : Int) != (a2.length : Int)) then some false else (iter (F_fz n a1 a2) n 0 : Option (Ctl Unit Bool)).bind fun b11 => match b11 with | .cont sb11 => (some true) | .done sb11 => some sb11)
theorem k_ds (n : Nat) (a1 : List Pair) (a2 : List Pair) (r : Bool) (h : F_ds n a1 a2 = some r) :
    C prog 18 [.rsl 2 (List.map Pair.c a1), .rsl 2 (List.map Pair.c a2)] [] (fun a H => a = .bool r ∧ H = []) := by
 refine Qd func18 Z Z Z ?_
 refine Rg (U 1 Z (Nx (TC.seq (Rg (U 1 Z (LnM runUnderlying42 Z (U 1 Z (LnM runUnderlying42 Z (U 1 Z (Nx (Cn Z h (fun hc1 h => ?_) (fun hc1 h => ?_))))))))))))
 ·refine Rg (U 1 Z (Nx (RtR ?_)))
  obtain rfl := Oi h
  exact R1 4 Z (Lr [])
 refine QU (TC.seq (Rg (U 1 Z (Nx (Bd h fun b11 h12 h => ?_)))))
 refine Qy (b := b11) (fun sb11 => []) (fun sb11 => []) ?_ (fun sb11 env H hbe hle => ?_)
 ·refine TC.block ?_
  refine TC.loop (E := fun s14 => [(0, .rsl 2 (List.map Pair.c a1)), (1, .rsl 2 (List.map Pair.c a2)), (5, I s14)]) (Hp := fun s14 => []) h12 ?_ ?_
  ·exact Lr []
  intro s14 d15 h16 hb13
  refine TC.seq (Rg (U 2 Z (LnM runUnderlying42 Z (U 1 Z (Nx (CnS Z h16 (fun hc17 h16 => ?_) (fun hc17 h16 => ?_)))))))
  ·refine ExX (Qz h16 ?_)
   obtain rfl := hb13 _ (Oi h16).symm
   exact QQ (Qx Z (Lr []))
  refine QU (TC.seq (TC.block (TC.seq ?_)))
  obtain ⟨x18, hx18, h16⟩ := bnd h16
  obtain ⟨x19, hx19, h16⟩ := bnd h16
  refine TC.draw0 8 [17, 18, 19, 20, 21, 22, 23, 24] [.rsl 2 (List.map Pair.c a1), I s14, .rp [I x18.A, I x18.B], .agg (Pair.c x18), .rsl 2 (List.map Pair.c a2), I s14, .rp [I x19.A, I x19.B], .agg (Pair.c x19)] draws Z Z Z ?_ ?_
  ·refine ov (ov (Oq.c ?_ (ov (ov (ov (Oq.c ?_ (ov (Oq.n))))))))
   ·refine Om Z (sD 0 (sD 1 sN)) ?_
    exact Ix hx18 runUnderlying42 sizeOf59 Z Wp
   ·refine Om Z (sD 4 (sD 5 sN)) ?_
    exact Ix hx19 runUnderlying42 sizeOf59 Z Wp
  refine vX (.bool (x18 != x19)) (Qef (p := x18) (q := x19) Qi8 Z Z) ?_
  refine Nx (Cn Z h16 (fun hc20 h16 => ?_) (fun hc20 h16 => ?_))
  ·refine Rg (U 1 Z (Nx (TC.ret (Qm (Ql (QV h16 ?_))))))
   obtain rfl := hb13 _ (Oi h16).symm
   refine Qm (QF (Ql ?_))
   obtain rfl := Oi h
   exact R1 4 Z (Lr [])
  exact TC.skip (QD (Qf (TC.region (U 3 Z (WO.nil (Qu h16 (Lr [])))))))
 subst hbe
 refine Qf (TC.le hle (Rg (U 1 Z (Nx (TC.ret ?_)))))
 obtain rfl := Oi h
 exact R1 4 Z (Lr [])
def F_ex (n : Nat) (a1 : Course) (a2 : List Fact) (a3 : Int) : Option Bool :=
  (F_ee 300).bind fun r1 => (bif (!r1) then some false else ((F_x n a1).bind fun r9 => (bif (!r9) then some true else (F_fd n a2 14).bind fun r11 => (bif (!(decide ((a2.length : Int) ≤ 14))) then some true else some ((a2.length : Int) == 0))) : Option Bool).bind fun b7 => (bif b7 then some true else (nz (a2.length : Int)).bind fun x14 => (slc a2 (Int.tmod (andI .i64 a3 1023) (a2.length : Int)) (a2.length : Int)).bind fun x15 => (app [z_Fact] x15).bind fun l16 => (slc a2 0 (Int.tmod (andI .i64 a3 1023) (a2.length : Int))).bind fun x17 => (app l16 x17).bind fun l18 => (idx a2 (Int.tmod (andI .i64 a3 1023) (a2.length : Int))).bind fun x19 => (app l18 [x19]).bind fun l20 => (F_o n a1 a2).bind fun r21 => (F_o n a1 l20).bind fun r22 => (F_u n a1 a2).bind fun r23 => (F_u n a1 l20).bind fun r24 => ((F_cu n r21.1 r22.1).bind fun r32 => (bif r32 then (bif (r21.2 == r22.2) then (F_ds n r23.1 r24.1).bind fun r35 => (bif r35 then some (r23.2 == r24.2) else some false) else some false) else some false) : Option Bool).bind fun b30 => some b30))
theorem k_ex (n : Nat) (a1 : Course) (a2 : List Fact) (a3 : Int) (r : Bool) (h : F_ex n a1 a2 a3 = some r) :
    C prog 6 [.agg (Course.c a1), .rsl 57 (List.map Fact.c a2), I a3] [] (fun a H => a = .bool r ∧ H = []) := by
 refine Qd func6 Z Z Z ?_
 refine Rg (U 2 Z (Nx (TC.seq (Rg (Bd h fun r1 hr1 h => Pc [] Z (OpC.fn call10 Z Z Z) (k_ee _ _ hr1) Z (U 1 Z (Nx (Cn Z h (fun hc2 h => ?_) (fun hc2 h => ?_)))))))))
 ·refine Rg (U 1 Z (Nx (RtR ?_)))
  obtain rfl := Oi h
  exact R1 6 Z (Lr [])
 refine QU (TC.seq (TC.seq (Bd h fun b7 h8 h => ?_)))
 refine TC.cut ([(1, .rsl 57 (List.map Fact.c a2)), (2, I a3), (3, .ptr 0 0), (31, .bool b7)]) ([.cells 33 (Course.c a1)]) ?_ (fun env H hle => ?_)
 ·refine TC.region (U 1 Z (Bd h8 fun r9 hr9 h8 => Pc [] Z (OpC.fn call11 Z Z Z) (k_x _ _ _ hr9) Z (U 2 Z (If h8 (fun hg10 h8 => ?_) (fun hg10 h8 => ?_)))))
  ·refine KF hg10 Z (KF hg10 Z (KF hg10 Z (Pk hg10 Z (U 5 Z (WO.nil ?_)))))
   obtain rfl := Oi h8
   exact cutN (Lr [0])
  ·refine Sg (gT hg10) Z (Bd h8 fun r11 hr11 h8 => Pc [] Z (OpC.fn call12 Z Z Z) (k_fd _ _ _ _ hr11) (hg := (gT hg10)) Z (Sg (gT hg10) Z (Pk hg10 Z (U 1 Z (If h8 (fun hg12 h8 => ?_) (fun hg12 h8 => ?_))))))
   ·refine KF hg12 Z (KF hg12 Z (KF hg12 Z (Pk hg12 Z (WO.nil ?_))))
    obtain rfl := Oi h8
    exact cutN (Lr [0])
   ·refine Sg (gT hg12) Z ?_
    refine vX (I (a2.length : Int)) (Qk (e := Fact.c) (l := a2) runUnderlying34) ?_ (gT hg12)
    refine Sg (gT hg12) Z (Pk hg12 Z (WO.nil ?_))
    obtain rfl := Oi h8
    exact cutN (Lr [0])
 refine Qf (TC.le hle (Cn Z h (fun hc13 h => ?_) (fun hc13 h => ?_)))
 ·refine Rg (U 1 Z (Nx (RtR ?_)))
  obtain rfl := Oi h
  exact R1 6 Z (Lr [])
 refine QU (Rg (U 1 Z ?_))
 refine vX (I (andI .i64 a3 1023)) (OpV.and Z Z Z) ?_
 refine U 1 Z (LnM runUnderlying34 Z (Bd h fun x14 hx14 h => ?_))
 refine vX (I (Int.tmod (andI .i64 a3 1023) (a2.length : Int))) (OpV.rem Z Z Z (nz_ok hx14)) ?_
 refine U 1 Z (Nx (TC.seq ?_))
 obtain ⟨x15, hx15, h⟩ := bnd h
 obtain ⟨l16, hl16, h⟩ := bnd h
 obtain ⟨x17, hx17, h⟩ := bnd h
 obtain ⟨l18, hl18, h⟩ := bnd h
 obtain ⟨x19, hx19, h⟩ := bnd h
 refine QW 15 0 [37, 38, 39, 40, 41, 42, 43, 44, 45, 46, 47, 48, 49, 50, 51] [false, true, false, false, false, true, false, false, false, true, false, false, false, false, false] [[], [], [], [], [], [1], [], [], [], [1, 5], [], [], [], [], []] [[], [1], [1, 5], [1, 5, 9]] [[(0, 0), (1, 1), (2, 2), (3, 3)], [(0, 1)], [(0, 0), (1, 1), (2, 2), (3, 3)], [(0, 0), (1, 1), (2, 2), (3, 3)], [(0, 0), (1, 1), (2, 2), (3, 3)], [(1, 2)], [(0, 0), (1, 1), (2, 2), (3, 3)], [(0, 0), (1, 1), (2, 2), (3, 3)], [(0, 0), (1, 1), (2, 2), (3, 3)], [(2, 3)], [(0, 0), (1, 1), (2, 2), (3, 3)], [(0, 0), (1, 1), (2, 2), (3, 3)], [(0, 0), (1, 1), (2, 2), (3, 3)], [(0, 0), (1, 1), (2, 2), (3, 3)], [(0, 0), (1, 1), (2, 2), (3, 3)]] [.agg (Fact.c z_Fact), .osl 1 0 ([z_Fact].length) 57, .rsl 57 (List.map Fact.c a2), I (Int.tmod (andI .i64 a3 1023) (a2.length : Int)), .rsl 57 (List.map Fact.c x15), .osl 2 0 l16.length 57, .rsl 57 (List.map Fact.c a2), I (Int.tmod (andI .i64 a3 1023) (a2.length : Int)), .rsl 57 (List.map Fact.c x17), .osl 3 0 l18.length 57, .rsl 57 (List.map Fact.c a2), I (Int.tmod (andI .i64 a3 1023) (a2.length : Int)), .rp [I x19.Crew, I x19.No, I x19.At, I x19.Kind, I x19.Starter.Bib, I x19.Starter.Distance, I x19.Starter.Wave, I x19.Starter.Slot, I x19.Starter.Age, I x19.Starter.Chip, I x19.Starter.Team, I x19.Starter.Lot, I x19.Read.Mat, I x19.Read.Epoch, I x19.Read.Chip, I x19.Read.Local, I x19.Beacon.Mat, I x19.Beacon.Epoch, I x19.Beacon.Local, I x19.Beacon.True, I x19.Beacon.Err, I x19.Sync.MatA, I x19.Sync.EpochA, I x19.Sync.LocalA, I x19.Sync.MatB, I x19.Sync.EpochB, I x19.Sync.LocalB, I x19.Sync.Min, I x19.Sync.Max, I x19.Hand.Bib, I x19.Hand.Position, I x19.Hand.Lo, I x19.Hand.Hi, I x19.Silence.Mat, I x19.Silence.Epoch, I x19.Silence.Lo, I x19.Silence.Hi, I x19.Pair.A, I x19.Pair.B, I x19.Report.Case, I x19.Report.Bib, I x19.Report.Offence, I x19.Report.Position, I x19.Protest.Case, I x19.Protest.By, I x19.Protest.Fee, I x19.Protest.Form, I x19.Ruling.Case, I x19.Ruling.Instance, I x19.Ruling.Kind, I x19.Ruling.Bib, I x19.Ruling.Position, I x19.Ruling.Amount, I x19.Appeal.Case, .bool x19.Appeal.Suspends, I x19.Void.Crew, I x19.Void.No], .agg (Fact.c x19), .rsl 57 (List.map Fact.c [x19])] [[.cells 33 (Course.c a1)], [.cells 33 (Course.c a1), .row 81 57 (List.map Fact.c [z_Fact])], [.cells 33 (Course.c a1), .dead, .row 81 57 (List.map Fact.c l16)], [.cells 33 (Course.c a1), .dead, .dead, .row 81 57 (List.map Fact.c l18)]] ([.cells 33 (Course.c a1), .dead, .dead, .row 81 57 (List.map Fact.c l18)]) draws Z Z Z Z Z Z Z ?_ Z ?_
 ·refine OblM.cons (Qa (v0 Z Z) (Qa (v0 Z Z) (Qa (v0 Z Z) (Qa (v0 Z Z) (Qc))))) (OblM.cons ?_ (OblM.cons (Qa (v0 Z Z) (Qa (v0 Z Z) (Qa (v0 Z Z) (Qa (v0 Z Z) (Qc))))) (OblM.cons (Qa (v0 Z Z) (Qa (v0 Z Z) (Qa (v0 Z Z) (Qa (v0 Z Z) (Qc))))) (OblM.cons ?_ (OblM.cons ?_ (OblM.cons (Qa (v0 Z Z) (Qa (v0 Z Z) (Qa (v0 Z Z) (Qa (v0 Z Z) (Qc))))) (OblM.cons (Qa (v0 Z Z) (Qa (v0 Z Z) (Qa (v0 Z Z) (Qa (v0 Z Z) (Qc))))) (OblM.cons ?_ (OblM.cons ?_ (OblM.cons (Qa (v0 Z Z) (Qa (v0 Z Z) (Qa (v0 Z Z) (Qa (v0 Z Z) (Qc))))) (OblM.cons (Qa (v0 Z Z) (Qa (v0 Z Z) (Qa (v0 Z Z) (Qa (v0 Z Z) (Qc))))) (OblM.cons ?_ (OblM.cons (Qa (v0 Z Z) (Qa (v0 Z Z) (Qa (v0 Z Z) (Qa (v0 Z Z) (Qc))))) (OblM.cons ?_ (OblM.nil)))))))))))))))
  ·refine Qa ?_ (Qc)
   ·refine Om1 Z (sD 0 sN) ?_
    refine vH (OpH.lit (xs := [.tmp 37]) (es := List.map Fact.c [z_Fact]) Qbg Z Z Z Z Z ⟨Z, trivial⟩ Z Z) ?_
    exact FE Z Wp
  ·refine Qa ?_ (Qa ?_ (Qa ?_ (Qa ?_ (Qc))))
   ·refine Om Z (sD 2 (sD 3 sN)) ?_
    refine vX (.rsl 57 (List.map Fact.c x15)) (Qaj hx15 runUnderlying34 sizeOf81 (.inr ⟨_, Z, Z⟩) (.inl ⟨Z, Z⟩)) ?_
    exact Wp
   ·refine Om Z (sD 2 (sD 3 sN)) ?_
    refine vX (.rsl 57 (List.map Fact.c x15)) (Qaj hx15 runUnderlying34 sizeOf81 (.inr ⟨_, Z, Z⟩) (.inl ⟨Z, Z⟩)) ?_
    exact Wp
   ·refine Om Z (sD 2 (sD 3 sN)) ?_
    refine vX (.rsl 57 (List.map Fact.c x15)) (Qaj hx15 runUnderlying34 sizeOf81 (.inr ⟨_, Z, Z⟩) (.inl ⟨Z, Z⟩)) ?_
    exact Wp
   ·refine Om Z (sD 2 (sD 3 sN)) ?_
    refine vX (.rsl 57 (List.map Fact.c x15)) (Qaj hx15 runUnderlying34 sizeOf81 (.inr ⟨_, Z, Z⟩) (.inl ⟨Z, Z⟩)) ?_
    exact Wp
  ·refine Qa ?_ (Qc)
   ·refine Om1 Z (sD 1 (sD 4 sN)) ?_
    refine vH (QN (e := Fact.c) hl16 Qbg runUnderlying34 QbH) ?_
    exact FE Z Wp
  ·refine Qa ?_ (Qa ?_ (Qa ?_ (Qa ?_ (Qc))))
   ·refine Om Z (sD 6 (sD 7 sN)) ?_
    refine vX (.rsl 57 (List.map Fact.c x17)) (Qaj hx17 runUnderlying34 sizeOf81 (.inl ⟨Z, Z⟩) (.inr ⟨_, Z, Z⟩)) ?_
    exact Wp
   ·refine Om Z (sD 6 (sD 7 sN)) ?_
    refine vX (.rsl 57 (List.map Fact.c x17)) (Qaj hx17 runUnderlying34 sizeOf81 (.inl ⟨Z, Z⟩) (.inr ⟨_, Z, Z⟩)) ?_
    exact Wp
   ·refine Om Z (sD 6 (sD 7 sN)) ?_
    refine vX (.rsl 57 (List.map Fact.c x17)) (Qaj hx17 runUnderlying34 sizeOf81 (.inl ⟨Z, Z⟩) (.inr ⟨_, Z, Z⟩)) ?_
    exact Wp
   ·refine Om Z (sD 6 (sD 7 sN)) ?_
    refine vX (.rsl 57 (List.map Fact.c x17)) (Qaj hx17 runUnderlying34 sizeOf81 (.inl ⟨Z, Z⟩) (.inr ⟨_, Z, Z⟩)) ?_
    exact Wp
  ·refine Qa ?_ (Qc)
   ·refine Om1 Z (sD 5 (sD 8 sN)) ?_
    refine vH (QN (e := Fact.c) hl18 Qbg runUnderlying34 QbH) ?_
    exact FE Z Wp
  ·refine Qa ?_ (Qa ?_ (Qa ?_ (Qa ?_ (Qc))))
   ·refine Om Z (sD 10 (sD 11 sN)) ?_
    exact Ix hx19 runUnderlying34 sizeOf81 Z Wp
   ·refine Om Z (sD 10 (sD 11 sN)) ?_
    exact Ix hx19 runUnderlying34 sizeOf81 Z Wp
   ·refine Om Z (sD 10 (sD 11 sN)) ?_
    exact Ix hx19 runUnderlying34 sizeOf81 Z Wp
   ·refine Om Z (sD 10 (sD 11 sN)) ?_
    exact Ix hx19 runUnderlying34 sizeOf81 Z Wp
  ·refine Qa ?_ (Qa ?_ (Qa ?_ (Qa ?_ (Qc))))
   ·refine Om Z (sD 13 sN) ?_
    refine vH (QX (xs := [.tmp 50]) (es := List.map Fact.c [x19]) Qbg Z Z Z Z Z ⟨Z, trivial⟩ Z Z) ?_
    exact FE Z Wp
   ·refine Om Z (sD 13 sN) ?_
    refine vH (QX (xs := [.tmp 50]) (es := List.map Fact.c [x19]) Qbg Z Z Z Z Z ⟨Z, trivial⟩ Z Z) ?_
    exact FE Z Wp
   ·refine Om Z (sD 13 sN) ?_
    refine vH (QX (xs := [.tmp 50]) (es := List.map Fact.c [x19]) Qbg Z Z Z Z Z ⟨Z, trivial⟩ Z Z) ?_
    exact FE Z Wp
   ·refine Om Z (sD 13 sN) ?_
    refine vH (QX (xs := [.tmp 50]) (es := List.map Fact.c [x19]) Qbg Z Z Z Z Z ⟨Z, trivial⟩ Z Z) ?_
    exact FE Z Wp
 refine Bd h fun l20 hl20 h => ?_
 refine vH (QN (e := Fact.c) hl20 Qbg runUnderlying34 QbH) ?_
 refine FE Z (U 1 Z (Nx (Rg (U 2 Z (Bd h fun r21 hr21 h => ?_)))))
 refine Qe [] (OpC.fn call13 Z Z Z) (k_o _ _ _ _ hr21) ?_
 rintro _ _ ⟨rfl, rfl⟩
 refine FE Z (U 5 Z (Nx (Rg (U 2 Z ?_))))
 refine WO.le (QaG [(8, _), (52, _), (61, _)] Z Z (FzOv.cons Z FzA.o (FzOv.cons Z FzA.o (FzOv.cons Z FzA.o FzOv.nil))) (FzH.keep (FzH.keep (FzH.keep (FzH.keep (FzH.keep (YB _))))))) ?_
 refine Bd h fun r22 hr22 h => ?_
 refine Qe [] (OpC.fn call13 Z Z Z) (k_o _ _ _ _ hr22) ?_
 rintro _ _ ⟨rfl, rfl⟩
 refine FE Z (U 5 Z (Nx (Rg (U 2 Z (Bd h fun r23 hr23 h => ?_)))))
 refine Qe [] (OpC.fn call15 Z Z Z) (k_u _ _ _ _ hr23) ?_
 rintro _ _ ⟨rfl, rfl⟩
 refine FE Z (U 5 Z (Nx (Rg (U 2 Z (Bd h fun r24 hr24 h => ?_)))))
 refine Qe [] (OpC.fn call15 Z Z Z) (k_u _ _ _ _ hr24) ?_
 rintro _ _ ⟨rfl, rfl⟩
 refine FE Z (U 5 Z (Nx (TC.seq (Bd h fun b30 h31 h => ?_))))
 refine TC.cut ([(6, .bool b30)]) ([]) ?_ (fun env H hle => ?_)
 ·refine TC.region (U 2 Z (Bd h31 fun r32 hr32 h31 => ?_))
  refine Qh (OpC.fn call17 rfl rfl rfl) (LookL.cons rfl (.inr ⟨_, _, _, _, _, rfl, rfl, List.length_map .., rfl⟩) (LookL.cons rfl (.inr ⟨_, _, _, _, _, rfl, rfl, List.length_map .., rfl⟩) LookL.nil)) (k_cu _ _ _ _ hr32) (by rintro _ _ ⟨rfl, rfl⟩; rfl) ?_
  rintro _ _ ⟨rfl, rfl⟩
  refine FE Z (U 1 Z (If h31 (fun hg33 h31 => ?_) (fun hg33 h31 => ?_)))
  ·refine Sg (gT hg33) Z (Sg (gT hg33) Z (Sg (gT hg33) Z (Pk hg33 Z (U 1 Z (If h31 (fun hg34 h31 => ?_) (fun hg34 h31 => ?_))))))
   ·refine Sg (gT hg34) Z (Sg (gT hg34) Z (Bd h31 fun r35 hr35 h31 => ?_))
    refine Qh (OpC.fn call18 rfl rfl rfl) (LookL.cons rfl (.inr ⟨_, _, _, _, _, rfl, rfl, List.length_map .., rfl⟩) (LookL.cons rfl (.inr ⟨_, _, _, _, _, rfl, rfl, List.length_map .., rfl⟩) LookL.nil)) (k_ds _ _ _ _ hr35) (by rintro _ _ ⟨rfl, rfl⟩; rfl) ?_ (gT hg34)
    rintro _ _ ⟨rfl, rfl⟩
    refine FE Z (Pk hg34 Z (U 1 Z (If h31 (fun hg36 h31 => ?_) (fun hg36 h31 => ?_))))
    ·refine Sg (gT hg36) Z (Sg (gT hg36) Z (Sg (gT hg36) Z (Pk hg36 Z (U 1 Z (WO.nil ?_)))))
     obtain rfl := Oi h31
     exact cutN (Lr [])
    ·refine KF hg36 Z (KF hg36 Z (KF hg36 Z (Pk hg36 Z (U 1 Z (WO.nil ?_)))))
     obtain rfl := Oi h31
     exact cutN (Lr [])
   ·refine KF hg34 Z (KF hg34 Z (KF hg34 Z (Pk hg34 Z (U 6 Z (WO.nil ?_)))))
    obtain rfl := Oi h31
    exact cutN (Lr [])
  ·refine KF hg33 Z (KF hg33 Z (KF hg33 Z (Pk hg33 Z (U 11 Z (WO.nil ?_)))))
   obtain rfl := Oi h31
   exact cutN (Lr [])
 refine Qf (TC.le hle (TC.ret ?_))
 obtain rfl := Oi h
 exact R1 6 Z (Lr [])
end Go.Sw
