/- What the functions compute that CategoriesOf reaches, and that their calls refine it (part 4 of 4). -/
import Derived.Test.YtjikdlekkmifhaaGreatW29Of3
set_option linter.unusedVariables false
set_option linter.unusedSimpArgs false
set_option maxRecDepth 100000
namespace Go.Sw
open Go.Proofs

/- stopwatch/stopwatchlaw29.CategoriesOf -/
def F_stopwatchlaw29_CategoriesOf_L1 (n : Nat) (r4 : List Int) (s67 : Course × Starter × Int) : Option (Ctl (Course × Starter × Int) (Ctl (Course × Starter) Bool)) :=
  (bif decide (s67.2.2 < (r4.length : Int)) then ((idx r4 s67.2.2).bind fun x80 => (bif decide (x80 < 0) then some (s67.1, s67.2.1, true) else (idx r4 s67.2.2).bind fun x82 => (bif decide ((s67.1.Categories.length : Int) ≤ x82) then some (s67.1, s67.2.1, true) else (bif decide (0 < s67.2.2) then (idx r4 (IntKind.i64.wrap (s67.2.2 - 1))).bind fun x85 => (idx r4 s67.2.2).bind fun x86 => some (s67.1, s67.2.1, decide (x86 ≤ x85)) else some (s67.1, s67.2.1, false)))) : Option (Course × Starter × Bool)).bind fun b78 => (bif b78.2.2 then some (.done (.done false)) else (idx r4 s67.2.2).bind fun x88 => (F_categories_Name n b78.1 x88).bind fun r89 => ((bif (r89.2 != 0) then some (b78.1, b78.2.1, true) else (idx r4 s67.2.2).bind fun x96 => (idx b78.1.Categories x96).bind fun x97 => some (b78.1, b78.2.1, (r89.1 != x97.Name))) : Option (Course × Starter × Bool)).bind fun b93 => (bif b93.2.2 then some (.done (.done false)) else some (.cont (b93.1, b93.2.1, IntKind.i64.wrap (s67.2.2 + 1))))) else some (.done (.cont (s67.1, s67.2.1))))
def F_stopwatchlaw29_CategoriesOf_L2 (n : Nat) (r4 : List Int) (s127 : Course × Starter × Int) : Option (Ctl (Course × Starter × Int) (Ctl Course Bool)) :=
  (bif decide (s127.2.2 < (s127.1.Categories.length : Int)) then ((F_stopwatchref29_In n r4 s127.2.2).bind fun r137 => (idx s127.1.Categories s127.2.2).bind fun x138 => (bif decide (x138.From ≤ s127.2.1.Age) then (idx s127.1.Categories s127.2.2).bind fun x140 => some (s127.1, s127.2.1, (r137 != (decide (s127.2.1.Age ≤ x140.To)))) else some (s127.1, s127.2.1, (r137 != false))) : Option (Course × Starter × Bool)).bind fun b135 => (bif b135.2.2 then some (.done (.done false)) else some (.cont (b135.1, b135.2.1, IntKind.i64.wrap (s127.2.2 + 1)))) else some (.done (.cont s127.1)))
def F_stopwatchlaw29_CategoriesOf (n : Nat) (a1 : Course) (a2 : Starter) : Option Bool :=
  (F_stopwatchlaw29_sane n).bind fun r1 => (bif (!r1) then some false else (bif decide (100 < (a1.Categories.length : Int)) then some true else (F_categories_Of n a1 a2).bind fun r4 => (iter (F_stopwatchlaw29_CategoriesOf_L1 n r4) n (a1, a2, 0) : Option (Ctl (Course × Starter) Bool)).bind fun b64 => match b64 with | .cont sb64 => ((iter (F_stopwatchlaw29_CategoriesOf_L2 n r4) n (sb64.1, sb64.2, 0) : Option (Ctl Course Bool)).bind fun b124 => match b124 with | .cont sb124 => ((F_categories_Name n sb124 (sb124.Categories.length : Int)).bind fun r142 => some (r142.2 == 290)) | .done sb124 => some sb124) | .done sb64 => some sb64))
theorem ok_stopwatchlaw29_CategoriesOf (n : Nat) (a1 : Course) (a2 : Starter) (r : Bool) (h : F_stopwatchlaw29_CategoriesOf n a1 a2 = some r) :
    C Tryz.prog 7 [.agg (Course.cells a1), .agg (Starter.cells a2)] [] (fun a H => a = .bool r ∧ H = []) := by
  refine C.of_body Tryz.func7 rfl rfl rfl ?_
  refine TC.seq ?_
  refine TC.region ?_
  refine vH (OpH.box rfl rfl rfl rfl rfl) ?_
  refine WO.atV (x := (.ptr 0 0)) (H := [.cells 33 (Course.cells a1)]) rfl rfl ?_
  refine vH (OpH.box rfl rfl rfl rfl rfl) ?_
  refine WO.atV (x := (.ptr 1 0)) (H := [.cells 33 (Course.cells a1), .cells 42 (Starter.cells a2)]) rfl rfl ?_
  refine vV (x := (.bool false)) (OpV.assign rfl rfl) ?_
  refine WO.nil ?_
  refine seqN ?_
  refine TC.seq ?_
  refine TC.seq ?_
  refine TC.region ?_
  obtain ⟨r1, hr1, h⟩ := bnd h
  refine WO.callD [] (OpC.fn Tryz.call8 rfl rfl rfl) (ok_stopwatchlaw29_sane _ _ hr1) ?_
  rintro _ _ ⟨rfl, rfl⟩
  refine WO.atV (x := (.bool r1)) (H := [.cells 33 (Course.cells a1), .cells 42 (Starter.cells a2)]) rfl rfl ?_
  refine vV (x := (.bool (!r1))) (OpV.not rfl rfl) ?_
  refine WO.nil ?_
  refine seqN ?_
  refine TC.cond rfl (fun hc2 => ?_) (fun hc2 => ?_)
  · have h := ifT hc2 h
    refine TC.seq ?_
    refine TC.region ?_
    refine vV (x := (.bool false)) (OpV.assign rfl rfl) ?_
    refine WO.nil ?_
    refine seqN ?_
    refine TC.ret ?_
    refine seqR ?_
    obtain rfl := Option.some.inj h
    refine ⟨[(4, .bool false)], [], _, ?_, ResOK.one rfl rfl, rfl, rfl⟩
    exact Le.ren [] rfl rfl (by decide) ⟨rfl, trivial⟩
  have h := ifF hc2 h
  refine TC.skip ?_
  refine seqN ?_
  refine TC.seq ?_
  refine TC.seq ?_
  refine TC.region ?_
  refine vV (x := (.ptr 0 6)) (OpV.fieldP fa_33_6 rfl rfl) ?_
  refine vV (x := (.rsl 3 (List.map Category.cells a1.Categories))) (OpV.load rfl Tryz.isAgg27 rfl (Pts.cells rfl rfl)) ?_
  refine vV (x := (.int .i64 (a1.Categories.length : Int))) (OpV.lenM Tryz.runUnderlying27) ?_
  refine vV (x := (.bool (decide (100 < (a1.Categories.length : Int))))) (OpV.gtr rfl rfl rfl) ?_
  refine WO.nil ?_
  refine seqN ?_
  refine TC.cond rfl (fun hc3 => ?_) (fun hc3 => ?_)
  · have h := ifT hc3 h
    refine TC.seq ?_
    refine TC.region ?_
    refine vV (x := (.bool true)) (OpV.assign rfl rfl) ?_
    refine WO.nil ?_
    refine seqN ?_
    refine TC.ret ?_
    refine seqR ?_
    obtain rfl := Option.some.inj h
    refine ⟨[(4, .bool true)], [], _, ?_, ResOK.one rfl rfl, rfl, rfl⟩
    exact Le.ren [] rfl rfl (by decide) ⟨rfl, trivial⟩
  have h := ifF hc3 h
  refine TC.skip ?_
  refine seqN ?_
  refine TC.seq ?_
  refine TC.region ?_
  refine vV (x := (.agg (Course.cells a1))) (OpV.loadA rfl Tryz.isAgg33 Tryz.sizeOf33 rfl (Pts.cells rfl rfl) rfl rfl) ?_
  refine vV (x := (.agg (Starter.cells a2))) (OpV.loadA rfl Tryz.isAgg42 Tryz.sizeOf42 rfl (Pts.cells rfl rfl) rfl rfl) ?_
  obtain ⟨r4, hr4, h⟩ := bnd h
  refine WO.callD [] (OpC.fn Tryz.call12 rfl rfl rfl) (ok_categories_Of _ _ _ _ hr4) ?_
  rintro _ _ ⟨rfl, rfl⟩
  refine WO.atV (x := (.osl 2 0 r4.length 1)) (H := [.cells 33 (Course.cells a1), .cells 42 (Starter.cells a2), .row 3 1 (List.map (encI .i64) r4)]) rfl rfl ?_
  refine vV (x := (.osl 2 0 r4.length 1)) (OpV.assign rfl rfl) ?_
  refine WO.nil ?_
  refine seqN ?_
  refine TC.seq ?_
  refine TC.seq ?_
  refine TC.region ?_
  refine vV (x := (.int .i64 0)) (OpV.assign rfl rfl) ?_
  refine WO.nil ?_
  refine seqN ?_
  obtain ⟨b64, h65, h⟩ := bnd h
  refine TC.cutE (b := b64) (fun sb64 => [(2, .ptr 0 0), (3, .ptr 1 0), (5, .osl 2 0 r4.length 1)]) (fun sb64 => [.cells 33 (Course.cells sb64.1), .cells 42 (Starter.cells sb64.2), .row 3 1 (List.map (encI .i64) r4)]) ?_ (fun sb64 env H hbe hle => ?_)
  ·
    refine TC.block ?_
    refine TC.loop (E := fun s67 => [(2, .ptr 0 0), (3, .ptr 1 0), (5, .osl 2 0 r4.length 1), (6, .int .i64 s67.2.2)]) (Hp := fun s67 => [.cells 33 (Course.cells s67.1), .cells 42 (Starter.cells s67.2.1), .row 3 1 (List.map (encI .i64) r4)]) h65 ?_ ?_
    ·
      exact Le.ren [0, 1, 2] rfl rfl (by decide) ⟨rfl, rfl, rfl, rfl, trivial⟩
    intro s67 d68 h69 hb66
    refine TC.seq ?_
    refine TC.seq ?_
    refine TC.region ?_
    refine vV (x := (.int .i64 s67.2.2)) (OpV.move rfl rfl) ?_
    refine vV (x := (.osl 2 0 r4.length 1)) (OpV.move rfl rfl) ?_
    refine vV (x := (.int .i64 (r4.length : Int))) (OpV.lenOM Tryz.runUnderlying39) ?_
    refine vV (x := (.bool (decide (s67.2.2 < (r4.length : Int))))) (OpV.lss rfl rfl rfl) ?_
    refine WO.nil ?_
    refine seqN ?_
    refine TC.condS rfl (fun hc70 => ?_) (fun hc70 => ?_)
    · have h69 := ifF hc70 h69
      refine TC.exit ?_
      refine seqX ?_
      refine loopX h69 ?_
      obtain rfl := hb66 _ (Option.some.inj h69).symm
      refine bloE ?_
      refine cutEN rfl ?_
      exact Le.ren [0, 1, 2] rfl rfl (by decide) ⟨rfl, rfl, rfl, trivial⟩
    have h69 := ifT hc70 h69
    refine TC.skip ?_
    refine seqN ?_
    refine TC.seq ?_
    refine TC.block ?_
    refine TC.seq ?_
    refine TC.seq ?_
    obtain ⟨b78, h79, h69⟩ := bnd h69
    refine TC.cut ([(2, .ptr 0 0), (3, .ptr 1 0), (5, .osl 2 0 r4.length 1), (6, .int .i64 s67.2.2), (57, .bool b78.2.2)]) ([.cells 33 (Course.cells b78.1), .cells 42 (Starter.cells b78.2.1), .row 3 1 (List.map (encI .i64) r4)]) ?_ (fun env H hle => ?_)
    ·
      obtain ⟨x80, hx80, h79⟩ := bnd h79
      rcases bTF (decide (x80 < 0)) with hg81 | hg81
      · have h79 := ifT hg81 h79
        refine TC.draw 28 0 [27, 28, 29, 30, 31, 32, 33, 34, 35, 36, 37, 38, 39, 40, 41, 42, 43, 44, 45, 46, 47, 48, 49, 50, 51, 52, 53, 54] [0, 0, 0, 0, 0, 0, 0, 0, 0, 0, 0, 0, 0, 0, 0, 0, 0, 0, 0, 0, 0, 0, 0, 0, 0, 0, 0, 0] [false, false, false, false, false, false, false, false, false, false, false, false, false, false, false, false, false, false, false, false, false, false, false, false, false, false, false, false] [.osl 2 0 r4.length 1, .int .i64 s67.2.2, .ptr 2 (Int.toNat s67.2.2 * 1), .int .i64 x80, .bool (decide (x80 < 0)), .bool (decide (x80 < 0)), .tup [], .tup [], .tup [], .tup [], .tup [], .tup [], .tup [], .tup [], .bool true, .bool true, .tup [], .tup [], .tup [], .tup [], .tup [], .tup [], .tup [], .tup [], .tup [], .tup [], .tup [], .tup []] [[.cells 33 (Course.cells s67.1), .cells 42 (Starter.cells s67.2.1), .row 3 1 (List.map (encI .i64) r4)]] ([.cells 33 (Course.cells s67.1), .cells 42 (Starter.cells s67.2.1), .row 3 1 (List.map (encI .i64) r4)]) draws rfl rfl rfl rfl rfl rfl rfl rfl ?_ ?_
        · refine OblL.cons ?_ (OblL.cons ?_ (OblL.cons ?_ (OblL.cons ?_ (OblL.cons ?_ (OblL.cons ?_ (OblL.cons ?_ (OblL.cons ?_ (OblL.cons ?_ (OblL.cons ?_ (OblL.cons ?_ (OblL.cons ?_ (OblL.cons ?_ (OblL.cons ?_ (OblL.cons ?_ (OblL.cons ?_ (OblL.cons ?_ (OblL.cons ?_ (OblL.cons ?_ (OblL.cons ?_ (OblL.cons ?_ (OblL.cons ?_ (OblL.cons ?_ (OblL.cons ?_ (OblL.cons ?_ (OblL.cons ?_ (OblL.cons ?_ (OblL.cons ?_ (OblL.nil))))))))))))))))))))))))))))
          · refine OblL.stC ?_ (OblL.st0)
            · refine OblAt.mk _ [(5, .osl 2 0 r4.length 1)] 27 (.osl 2 0 r4.length 1) rfl rfl rfl (SubE.old rfl rfl SubE.nil) ?_
              refine vV (x := (.osl 2 0 r4.length 1)) (OpV.move rfl rfl) ?_
              exact WO.nil Post1.mk
          · refine OblL.stC ?_ (OblL.st0)
            · refine OblAt.mk _ [(6, .int .i64 s67.2.2)] 28 (.int .i64 s67.2.2) rfl rfl rfl (SubE.old rfl rfl SubE.nil) ?_
              refine vV (x := (.int .i64 s67.2.2)) (OpV.move rfl rfl) ?_
              exact WO.nil Post1.mk
          · refine OblL.stC ?_ (OblL.st0)
            · refine OblAt.mk _ [(27, .osl 2 0 r4.length 1), (28, .int .i64 s67.2.2)] 29 (.ptr 2 (Int.toNat s67.2.2 * 1)) rfl rfl rfl (SubE.dep 0 rfl rfl rfl (SubE.dep 1 rfl rfl rfl SubE.nil)) ?_
              refine vV (x := (.ptr 2 (Int.toNat s67.2.2 * 1))) (OpV.ixW hx80 rfl Tryz.runUnderlying39 Tryz.sizeOf3) ?_
              exact WO.nil Post1.mk
          · refine OblL.stC ?_ (OblL.st0)
            · refine OblAt.mk _ [(29, .ptr 2 (Int.toNat s67.2.2 * 1))] 30 (.int .i64 x80) rfl rfl rfl (SubE.dep 2 rfl rfl rfl SubE.nil) ?_
              refine vV (x := (.int .i64 x80)) (OpV.load rfl Tryz.isAgg3 rfl (Pts.ofRow0 hx80)) ?_
              exact WO.nil Post1.mk
          · refine OblL.stC ?_ (OblL.st0)
            · refine OblAt.mk _ [(30, .int .i64 x80)] 31 (.bool (decide (x80 < 0))) rfl rfl rfl (SubE.dep 3 rfl rfl rfl SubE.nil) ?_
              refine vV (x := (.bool (decide (x80 < 0)))) (OpV.lss rfl rfl rfl) ?_
              exact WO.nil Post1.mk
          · refine OblL.stC ?_ (OblL.st0)
            · refine OblAt.mk _ [(31, .bool (decide (x80 < 0)))] 32 (.bool (decide (x80 < 0))) rfl rfl rfl (SubE.dep 4 rfl rfl rfl SubE.nil) ?_
              refine vV (x := (.bool (decide (x80 < 0)))) (OpV.move rfl rfl) ?_
              exact WO.nil Post1.mk
          · refine OblL.stC ?_ (OblL.st0)
            · refine OblAt.mk _ [(5, .osl 2 0 r4.length 1), (32, .bool (decide (x80 < 0)))] 33 (.tup []) rfl rfl rfl (SubE.old rfl rfl (SubE.dep 5 rfl rfl rfl SubE.nil)) ?_
              refine vS (gF hg81) ?_
              exact WO.nil Post1.mk
          · refine OblL.stC ?_ (OblL.st0)
            · refine OblAt.mk _ [(6, .int .i64 s67.2.2), (32, .bool (decide (x80 < 0)))] 34 (.tup []) rfl rfl rfl (SubE.old rfl rfl (SubE.dep 5 rfl rfl rfl SubE.nil)) ?_
              refine vS (gF hg81) ?_
              exact WO.nil Post1.mk
          · refine OblL.stC ?_ (OblL.st0)
            · refine OblAt.mk _ [(32, .bool (decide (x80 < 0))), (33, .tup []), (34, .tup [])] 35 (.tup []) rfl rfl rfl (SubE.dep 5 rfl rfl rfl (SubE.dep 6 rfl rfl rfl (SubE.dep 7 rfl rfl rfl SubE.nil))) ?_
              refine vS (gF hg81) ?_
              exact WO.nil Post1.mk
          · refine OblL.stC ?_ (OblL.st0)
            · refine OblAt.mk _ [(32, .bool (decide (x80 < 0))), (35, .tup [])] 36 (.tup []) rfl rfl rfl (SubE.dep 5 rfl rfl rfl (SubE.dep 8 rfl rfl rfl SubE.nil)) ?_
              refine vS (gF hg81) ?_
              exact WO.nil Post1.mk
          · refine OblL.stC ?_ (OblL.st0)
            · refine OblAt.mk _ [(2, .ptr 0 0), (32, .bool (decide (x80 < 0)))] 37 (.tup []) rfl rfl rfl (SubE.old rfl rfl (SubE.dep 5 rfl rfl rfl SubE.nil)) ?_
              refine vS (gF hg81) ?_
              exact WO.nil Post1.mk
          · refine OblL.stC ?_ (OblL.st0)
            · refine OblAt.mk _ [(32, .bool (decide (x80 < 0))), (37, .tup [])] 38 (.tup []) rfl rfl rfl (SubE.dep 5 rfl rfl rfl (SubE.dep 10 rfl rfl rfl SubE.nil)) ?_
              refine vS (gF hg81) ?_
              exact WO.nil Post1.mk
          · refine OblL.stC ?_ (OblL.st0)
            · refine OblAt.mk _ [(32, .bool (decide (x80 < 0))), (38, .tup [])] 39 (.tup []) rfl rfl rfl (SubE.dep 5 rfl rfl rfl (SubE.dep 11 rfl rfl rfl SubE.nil)) ?_
              refine vS (gF hg81) ?_
              exact WO.nil Post1.mk
          · refine OblL.stC ?_ (OblL.st0)
            · refine OblAt.mk _ [(32, .bool (decide (x80 < 0))), (36, .tup []), (39, .tup [])] 40 (.tup []) rfl rfl rfl (SubE.dep 5 rfl rfl rfl (SubE.dep 9 rfl rfl rfl (SubE.dep 12 rfl rfl rfl SubE.nil))) ?_
              refine vS (gF hg81) ?_
              exact WO.nil Post1.mk
          · refine OblL.stC ?_ (OblL.st0)
            · refine OblAt.mk _ [(32, .bool (decide (x80 < 0))), (40, .tup [])] 41 (.bool true) rfl rfl rfl (SubE.dep 5 rfl rfl rfl (SubE.dep 13 rfl rfl rfl SubE.nil)) ?_
              refine vV (x := (.bool true)) (OpV.pickT hg81) ?_
              exact WO.nil Post1.mk
          · refine OblL.stC ?_ (OblL.st0)
            · refine OblAt.mk _ [(41, .bool true)] 42 (.bool true) rfl rfl rfl (SubE.dep 14 rfl rfl rfl SubE.nil) ?_
              refine vV (x := (.bool true)) (OpV.move rfl rfl) ?_
              exact WO.nil Post1.mk
          · refine OblL.stC ?_ (OblL.st0)
            · refine OblAt.mk _ [(6, .int .i64 s67.2.2), (42, .bool true)] 43 (.tup []) rfl rfl rfl (SubE.old rfl rfl (SubE.dep 15 rfl rfl rfl SubE.nil)) ?_
              refine vS (gF rfl) ?_
              exact WO.nil Post1.mk
          · refine OblL.stC ?_ (OblL.st0)
            · refine OblAt.mk _ [(42, .bool true), (43, .tup [])] 44 (.tup []) rfl rfl rfl (SubE.dep 15 rfl rfl rfl (SubE.dep 16 rfl rfl rfl SubE.nil)) ?_
              refine vS (gF rfl) ?_
              exact WO.nil Post1.mk
          · refine OblL.stC ?_ (OblL.st0)
            · refine OblAt.mk _ [(42, .bool true), (44, .tup [])] 45 (.tup []) rfl rfl rfl (SubE.dep 15 rfl rfl rfl (SubE.dep 17 rfl rfl rfl SubE.nil)) ?_
              refine vS (gF rfl) ?_
              exact WO.nil Post1.mk
          · refine OblL.stC ?_ (OblL.st0)
            · refine OblAt.mk _ [(5, .osl 2 0 r4.length 1), (45, .tup [])] 46 (.tup []) rfl rfl rfl (SubE.old rfl rfl (SubE.dep 18 rfl rfl rfl SubE.nil)) ?_
              refine vS gU ?_
              exact WO.nil Post1.mk
          · refine OblL.stC ?_ (OblL.st0)
            · refine OblAt.mk _ [(6, .int .i64 s67.2.2), (45, .tup [])] 47 (.tup []) rfl rfl rfl (SubE.old rfl rfl (SubE.dep 18 rfl rfl rfl SubE.nil)) ?_
              refine vS gU ?_
              exact WO.nil Post1.mk
          · refine OblL.stC ?_ (OblL.st0)
            · refine OblAt.mk _ [(45, .tup []), (47, .tup [])] 48 (.tup []) rfl rfl rfl (SubE.dep 18 rfl rfl rfl (SubE.dep 20 rfl rfl rfl SubE.nil)) ?_
              refine vS gU ?_
              exact WO.nil Post1.mk
          · refine OblL.stC ?_ (OblL.st0)
            · refine OblAt.mk _ [(45, .tup []), (46, .tup []), (48, .tup [])] 49 (.tup []) rfl rfl rfl (SubE.dep 18 rfl rfl rfl (SubE.dep 19 rfl rfl rfl (SubE.dep 21 rfl rfl rfl SubE.nil))) ?_
              refine vS gU ?_
              exact WO.nil Post1.mk
          · refine OblL.stC ?_ (OblL.st0)
            · refine OblAt.mk _ [(45, .tup []), (49, .tup [])] 50 (.tup []) rfl rfl rfl (SubE.dep 18 rfl rfl rfl (SubE.dep 22 rfl rfl rfl SubE.nil)) ?_
              refine vS gU ?_
              exact WO.nil Post1.mk
          · refine OblL.stC ?_ (OblL.st0)
            · refine OblAt.mk _ [(5, .osl 2 0 r4.length 1), (45, .tup [])] 51 (.tup []) rfl rfl rfl (SubE.old rfl rfl (SubE.dep 18 rfl rfl rfl SubE.nil)) ?_
              refine vS gU ?_
              exact WO.nil Post1.mk
          · refine OblL.stC ?_ (OblL.st0)
            · refine OblAt.mk _ [(6, .int .i64 s67.2.2), (45, .tup [])] 52 (.tup []) rfl rfl rfl (SubE.old rfl rfl (SubE.dep 18 rfl rfl rfl SubE.nil)) ?_
              refine vS gU ?_
              exact WO.nil Post1.mk
          · refine OblL.stC ?_ (OblL.st0)
            · refine OblAt.mk _ [(45, .tup []), (51, .tup []), (52, .tup [])] 53 (.tup []) rfl rfl rfl (SubE.dep 18 rfl rfl rfl (SubE.dep 24 rfl rfl rfl (SubE.dep 25 rfl rfl rfl SubE.nil))) ?_
              refine vS gU ?_
              exact WO.nil Post1.mk
          · refine OblL.stC ?_ (OblL.st0)
            · refine OblAt.mk _ [(45, .tup []), (53, .tup [])] 54 (.tup []) rfl rfl rfl (SubE.dep 18 rfl rfl rfl (SubE.dep 26 rfl rfl rfl SubE.nil)) ?_
              refine vS gU ?_
              exact WO.nil Post1.mk
        refine vS gU ?_
        refine vS (gF rfl) ?_
        refine vV (x := (.bool true)) (OpV.pickT rfl) ?_
        refine WO.nil ?_
        obtain rfl := Option.some.inj h79
        refine cutN ?_
        exact Le.ren [0, 1, 2] rfl rfl (by decide) ⟨rfl, rfl, rfl, rfl, rfl, trivial⟩
      · have h79 := ifF hg81 h79
        obtain ⟨x82, hx82, h79⟩ := bnd h79
        rcases bTF (decide ((s67.1.Categories.length : Int) ≤ x82)) with hg83 | hg83
        · have h79 := ifT hg83 h79
          refine TC.draw 28 0 [27, 28, 29, 30, 31, 32, 33, 34, 35, 36, 37, 38, 39, 40, 41, 42, 43, 44, 45, 46, 47, 48, 49, 50, 51, 52, 53, 54] [0, 0, 0, 0, 0, 0, 0, 0, 0, 0, 0, 0, 0, 0, 0, 0, 0, 0, 0, 0, 0, 0, 0, 0, 0, 0, 0, 0] [false, false, false, false, false, false, false, false, false, false, false, false, false, false, false, false, false, false, false, false, false, false, false, false, false, false, false, false] [.osl 2 0 r4.length 1, .int .i64 s67.2.2, .ptr 2 (Int.toNat s67.2.2 * 1), .int .i64 x80, .bool (decide (x80 < 0)), .bool (decide (x80 < 0)), .osl 2 0 r4.length 1, .int .i64 s67.2.2, .ptr 2 (Int.toNat s67.2.2 * 1), .int .i64 x82, .ptr 0 6, .rsl 3 (List.map Category.cells s67.1.Categories), .int .i64 (s67.1.Categories.length : Int), .bool (decide ((s67.1.Categories.length : Int) ≤ x82)), .bool (decide ((s67.1.Categories.length : Int) ≤ x82)), .bool (decide ((s67.1.Categories.length : Int) ≤ x82)), .tup [], .tup [], .tup [], .tup [], .tup [], .tup [], .tup [], .tup [], .tup [], .tup [], .tup [], .tup []] [[.cells 33 (Course.cells s67.1), .cells 42 (Starter.cells s67.2.1), .row 3 1 (List.map (encI .i64) r4)]] ([.cells 33 (Course.cells s67.1), .cells 42 (Starter.cells s67.2.1), .row 3 1 (List.map (encI .i64) r4)]) draws rfl rfl rfl rfl rfl rfl rfl rfl ?_ ?_
          · refine OblL.cons ?_ (OblL.cons ?_ (OblL.cons ?_ (OblL.cons ?_ (OblL.cons ?_ (OblL.cons ?_ (OblL.cons ?_ (OblL.cons ?_ (OblL.cons ?_ (OblL.cons ?_ (OblL.cons ?_ (OblL.cons ?_ (OblL.cons ?_ (OblL.cons ?_ (OblL.cons ?_ (OblL.cons ?_ (OblL.cons ?_ (OblL.cons ?_ (OblL.cons ?_ (OblL.cons ?_ (OblL.cons ?_ (OblL.cons ?_ (OblL.cons ?_ (OblL.cons ?_ (OblL.cons ?_ (OblL.cons ?_ (OblL.cons ?_ (OblL.cons ?_ (OblL.nil))))))))))))))))))))))))))))
            · refine OblL.stC ?_ (OblL.st0)
              · refine OblAt.mk _ [(5, .osl 2 0 r4.length 1)] 27 (.osl 2 0 r4.length 1) rfl rfl rfl (SubE.old rfl rfl SubE.nil) ?_
                refine vV (x := (.osl 2 0 r4.length 1)) (OpV.move rfl rfl) ?_
                exact WO.nil Post1.mk
            · refine OblL.stC ?_ (OblL.st0)
              · refine OblAt.mk _ [(6, .int .i64 s67.2.2)] 28 (.int .i64 s67.2.2) rfl rfl rfl (SubE.old rfl rfl SubE.nil) ?_
                refine vV (x := (.int .i64 s67.2.2)) (OpV.move rfl rfl) ?_
                exact WO.nil Post1.mk
            · refine OblL.stC ?_ (OblL.st0)
              · refine OblAt.mk _ [(27, .osl 2 0 r4.length 1), (28, .int .i64 s67.2.2)] 29 (.ptr 2 (Int.toNat s67.2.2 * 1)) rfl rfl rfl (SubE.dep 0 rfl rfl rfl (SubE.dep 1 rfl rfl rfl SubE.nil)) ?_
                refine vV (x := (.ptr 2 (Int.toNat s67.2.2 * 1))) (OpV.ixW hx80 rfl Tryz.runUnderlying39 Tryz.sizeOf3) ?_
                exact WO.nil Post1.mk
            · refine OblL.stC ?_ (OblL.st0)
              · refine OblAt.mk _ [(29, .ptr 2 (Int.toNat s67.2.2 * 1))] 30 (.int .i64 x80) rfl rfl rfl (SubE.dep 2 rfl rfl rfl SubE.nil) ?_
                refine vV (x := (.int .i64 x80)) (OpV.load rfl Tryz.isAgg3 rfl (Pts.ofRow0 hx80)) ?_
                exact WO.nil Post1.mk
            · refine OblL.stC ?_ (OblL.st0)
              · refine OblAt.mk _ [(30, .int .i64 x80)] 31 (.bool (decide (x80 < 0))) rfl rfl rfl (SubE.dep 3 rfl rfl rfl SubE.nil) ?_
                refine vV (x := (.bool (decide (x80 < 0)))) (OpV.lss rfl rfl rfl) ?_
                exact WO.nil Post1.mk
            · refine OblL.stC ?_ (OblL.st0)
              · refine OblAt.mk _ [(31, .bool (decide (x80 < 0)))] 32 (.bool (decide (x80 < 0))) rfl rfl rfl (SubE.dep 4 rfl rfl rfl SubE.nil) ?_
                refine vV (x := (.bool (decide (x80 < 0)))) (OpV.move rfl rfl) ?_
                exact WO.nil Post1.mk
            · refine OblL.stC ?_ (OblL.st0)
              · refine OblAt.mk _ [(5, .osl 2 0 r4.length 1), (32, .bool (decide (x80 < 0)))] 33 (.osl 2 0 r4.length 1) rfl rfl rfl (SubE.old rfl rfl (SubE.dep 5 rfl rfl rfl SubE.nil)) ?_
                refine vV (x := (.osl 2 0 r4.length 1)) (OpV.move rfl rfl) ?_ (gT hg81)
                exact WO.nil Post1.mk
            · refine OblL.stC ?_ (OblL.st0)
              · refine OblAt.mk _ [(6, .int .i64 s67.2.2), (32, .bool (decide (x80 < 0)))] 34 (.int .i64 s67.2.2) rfl rfl rfl (SubE.old rfl rfl (SubE.dep 5 rfl rfl rfl SubE.nil)) ?_
                refine vV (x := (.int .i64 s67.2.2)) (OpV.move rfl rfl) ?_ (gT hg81)
                exact WO.nil Post1.mk
            · refine OblL.stC ?_ (OblL.st0)
              · refine OblAt.mk _ [(32, .bool (decide (x80 < 0))), (33, .osl 2 0 r4.length 1), (34, .int .i64 s67.2.2)] 35 (.ptr 2 (Int.toNat s67.2.2 * 1)) rfl rfl rfl (SubE.dep 5 rfl rfl rfl (SubE.dep 6 rfl rfl rfl (SubE.dep 7 rfl rfl rfl SubE.nil))) ?_
                refine vV (x := (.ptr 2 (Int.toNat s67.2.2 * 1))) (OpV.ixW hx82 rfl Tryz.runUnderlying39 Tryz.sizeOf3) ?_ (gT hg81)
                exact WO.nil Post1.mk
            · refine OblL.stC ?_ (OblL.st0)
              · refine OblAt.mk _ [(32, .bool (decide (x80 < 0))), (35, .ptr 2 (Int.toNat s67.2.2 * 1))] 36 (.int .i64 x82) rfl rfl rfl (SubE.dep 5 rfl rfl rfl (SubE.dep 8 rfl rfl rfl SubE.nil)) ?_
                refine vV (x := (.int .i64 x82)) (OpV.load rfl Tryz.isAgg3 rfl (Pts.ofRow0 hx82)) ?_ (gT hg81)
                exact WO.nil Post1.mk
            · refine OblL.stC ?_ (OblL.st0)
              · refine OblAt.mk _ [(2, .ptr 0 0), (32, .bool (decide (x80 < 0)))] 37 (.ptr 0 6) rfl rfl rfl (SubE.old rfl rfl (SubE.dep 5 rfl rfl rfl SubE.nil)) ?_
                refine vV (x := (.ptr 0 6)) (OpV.fieldP fa_33_6 rfl rfl) ?_ (gT hg81)
                exact WO.nil Post1.mk
            · refine OblL.stC ?_ (OblL.st0)
              · refine OblAt.mk _ [(32, .bool (decide (x80 < 0))), (37, .ptr 0 6)] 38 (.rsl 3 (List.map Category.cells s67.1.Categories)) rfl rfl rfl (SubE.dep 5 rfl rfl rfl (SubE.dep 10 rfl rfl rfl SubE.nil)) ?_
                refine vV (x := (.rsl 3 (List.map Category.cells s67.1.Categories))) (OpV.load rfl Tryz.isAgg27 rfl (Pts.cells rfl rfl)) ?_ (gT hg81)
                exact WO.nil Post1.mk
            · refine OblL.stC ?_ (OblL.st0)
              · refine OblAt.mk _ [(32, .bool (decide (x80 < 0))), (38, .rsl 3 (List.map Category.cells s67.1.Categories))] 39 (.int .i64 (s67.1.Categories.length : Int)) rfl rfl rfl (SubE.dep 5 rfl rfl rfl (SubE.dep 11 rfl rfl rfl SubE.nil)) ?_
                refine vV (x := (.int .i64 (s67.1.Categories.length : Int))) (OpV.lenM Tryz.runUnderlying27) ?_ (gT hg81)
                exact WO.nil Post1.mk
            · refine OblL.stC ?_ (OblL.st0)
              · refine OblAt.mk _ [(32, .bool (decide (x80 < 0))), (36, .int .i64 x82), (39, .int .i64 (s67.1.Categories.length : Int))] 40 (.bool (decide ((s67.1.Categories.length : Int) ≤ x82))) rfl rfl rfl (SubE.dep 5 rfl rfl rfl (SubE.dep 9 rfl rfl rfl (SubE.dep 12 rfl rfl rfl SubE.nil))) ?_
                refine vV (x := (.bool (decide ((s67.1.Categories.length : Int) ≤ x82)))) (OpV.geq rfl rfl rfl) ?_ (gT hg81)
                exact WO.nil Post1.mk
            · refine OblL.stC ?_ (OblL.st0)
              · refine OblAt.mk _ [(32, .bool (decide (x80 < 0))), (40, .bool (decide ((s67.1.Categories.length : Int) ≤ x82)))] 41 (.bool (decide ((s67.1.Categories.length : Int) ≤ x82))) rfl rfl rfl (SubE.dep 5 rfl rfl rfl (SubE.dep 13 rfl rfl rfl SubE.nil)) ?_
                refine vV (x := (.bool (decide ((s67.1.Categories.length : Int) ≤ x82)))) (OpV.pickF hg81) ?_
                exact WO.nil Post1.mk
            · refine OblL.stC ?_ (OblL.st0)
              · refine OblAt.mk _ [(41, .bool (decide ((s67.1.Categories.length : Int) ≤ x82)))] 42 (.bool (decide ((s67.1.Categories.length : Int) ≤ x82))) rfl rfl rfl (SubE.dep 14 rfl rfl rfl SubE.nil) ?_
                refine vV (x := (.bool (decide ((s67.1.Categories.length : Int) ≤ x82)))) (OpV.move rfl rfl) ?_
                exact WO.nil Post1.mk
            · refine OblL.stC ?_ (OblL.st0)
              · refine OblAt.mk _ [(6, .int .i64 s67.2.2), (42, .bool (decide ((s67.1.Categories.length : Int) ≤ x82)))] 43 (.tup []) rfl rfl rfl (SubE.old rfl rfl (SubE.dep 15 rfl rfl rfl SubE.nil)) ?_
                refine vS (gF hg83) ?_
                exact WO.nil Post1.mk
            · refine OblL.stC ?_ (OblL.st0)
              · refine OblAt.mk _ [(42, .bool (decide ((s67.1.Categories.length : Int) ≤ x82))), (43, .tup [])] 44 (.tup []) rfl rfl rfl (SubE.dep 15 rfl rfl rfl (SubE.dep 16 rfl rfl rfl SubE.nil)) ?_
                refine vS (gF hg83) ?_
                exact WO.nil Post1.mk
            · refine OblL.stC ?_ (OblL.st0)
              · refine OblAt.mk _ [(42, .bool (decide ((s67.1.Categories.length : Int) ≤ x82))), (44, .tup [])] 45 (.tup []) rfl rfl rfl (SubE.dep 15 rfl rfl rfl (SubE.dep 17 rfl rfl rfl SubE.nil)) ?_
                refine vS (gF hg83) ?_
                exact WO.nil Post1.mk
            · refine OblL.stC ?_ (OblL.st0)
              · refine OblAt.mk _ [(5, .osl 2 0 r4.length 1), (45, .tup [])] 46 (.tup []) rfl rfl rfl (SubE.old rfl rfl (SubE.dep 18 rfl rfl rfl SubE.nil)) ?_
                refine vS gU ?_
                exact WO.nil Post1.mk
            · refine OblL.stC ?_ (OblL.st0)
              · refine OblAt.mk _ [(6, .int .i64 s67.2.2), (45, .tup [])] 47 (.tup []) rfl rfl rfl (SubE.old rfl rfl (SubE.dep 18 rfl rfl rfl SubE.nil)) ?_
                refine vS gU ?_
                exact WO.nil Post1.mk
            · refine OblL.stC ?_ (OblL.st0)
              · refine OblAt.mk _ [(45, .tup []), (47, .tup [])] 48 (.tup []) rfl rfl rfl (SubE.dep 18 rfl rfl rfl (SubE.dep 20 rfl rfl rfl SubE.nil)) ?_
                refine vS gU ?_
                exact WO.nil Post1.mk
            · refine OblL.stC ?_ (OblL.st0)
              · refine OblAt.mk _ [(45, .tup []), (46, .tup []), (48, .tup [])] 49 (.tup []) rfl rfl rfl (SubE.dep 18 rfl rfl rfl (SubE.dep 19 rfl rfl rfl (SubE.dep 21 rfl rfl rfl SubE.nil))) ?_
                refine vS gU ?_
                exact WO.nil Post1.mk
            · refine OblL.stC ?_ (OblL.st0)
              · refine OblAt.mk _ [(45, .tup []), (49, .tup [])] 50 (.tup []) rfl rfl rfl (SubE.dep 18 rfl rfl rfl (SubE.dep 22 rfl rfl rfl SubE.nil)) ?_
                refine vS gU ?_
                exact WO.nil Post1.mk
            · refine OblL.stC ?_ (OblL.st0)
              · refine OblAt.mk _ [(5, .osl 2 0 r4.length 1), (45, .tup [])] 51 (.tup []) rfl rfl rfl (SubE.old rfl rfl (SubE.dep 18 rfl rfl rfl SubE.nil)) ?_
                refine vS gU ?_
                exact WO.nil Post1.mk
            · refine OblL.stC ?_ (OblL.st0)
              · refine OblAt.mk _ [(6, .int .i64 s67.2.2), (45, .tup [])] 52 (.tup []) rfl rfl rfl (SubE.old rfl rfl (SubE.dep 18 rfl rfl rfl SubE.nil)) ?_
                refine vS gU ?_
                exact WO.nil Post1.mk
            · refine OblL.stC ?_ (OblL.st0)
              · refine OblAt.mk _ [(45, .tup []), (51, .tup []), (52, .tup [])] 53 (.tup []) rfl rfl rfl (SubE.dep 18 rfl rfl rfl (SubE.dep 24 rfl rfl rfl (SubE.dep 25 rfl rfl rfl SubE.nil))) ?_
                refine vS gU ?_
                exact WO.nil Post1.mk
            · refine OblL.stC ?_ (OblL.st0)
              · refine OblAt.mk _ [(45, .tup []), (53, .tup [])] 54 (.tup []) rfl rfl rfl (SubE.dep 18 rfl rfl rfl (SubE.dep 26 rfl rfl rfl SubE.nil)) ?_
                refine vS gU ?_
                exact WO.nil Post1.mk
          refine vS gU ?_
          refine vS (gF hg83) ?_
          refine vV (x := (.bool true)) (OpV.pickT hg83) ?_
          refine WO.nil ?_
          obtain rfl := Option.some.inj h79
          refine cutN ?_
          exact Le.ren [0, 1, 2] rfl rfl (by decide) ⟨rfl, rfl, rfl, rfl, rfl, trivial⟩
        · have h79 := ifF hg83 h79
          rcases bTF (decide (0 < s67.2.2)) with hg84 | hg84
          · have h79 := ifT hg84 h79
            obtain ⟨x85, hx85, h79⟩ := bnd h79
            obtain ⟨x86, hx86, h79⟩ := bnd h79
            refine TC.draw 28 0 [27, 28, 29, 30, 31, 32, 33, 34, 35, 36, 37, 38, 39, 40, 41, 42, 43, 44, 45, 46, 47, 48, 49, 50, 51, 52, 53, 54] [0, 0, 0, 0, 0, 0, 0, 0, 0, 0, 0, 0, 0, 0, 0, 0, 0, 0, 0, 0, 0, 0, 0, 0, 0, 0, 0, 0] [false, false, false, false, false, false, false, false, false, false, false, false, false, false, false, false, false, false, false, false, false, false, false, false, false, false, false, false] [.osl 2 0 r4.length 1, .int .i64 s67.2.2, .ptr 2 (Int.toNat s67.2.2 * 1), .int .i64 x80, .bool (decide (x80 < 0)), .bool (decide (x80 < 0)), .osl 2 0 r4.length 1, .int .i64 s67.2.2, .ptr 2 (Int.toNat s67.2.2 * 1), .int .i64 x82, .ptr 0 6, .rsl 3 (List.map Category.cells s67.1.Categories), .int .i64 (s67.1.Categories.length : Int), .bool (decide ((s67.1.Categories.length : Int) ≤ x82)), .bool (decide ((s67.1.Categories.length : Int) ≤ x82)), .bool (decide ((s67.1.Categories.length : Int) ≤ x82)), .int .i64 s67.2.2, .bool (decide (0 < s67.2.2)), .bool (decide (0 < s67.2.2)), .osl 2 0 r4.length 1, .int .i64 s67.2.2, .int .i64 (IntKind.i64.wrap (s67.2.2 - 1)), .ptr 2 (Int.toNat (IntKind.i64.wrap (s67.2.2 - 1)) * 1), .int .i64 x85, .osl 2 0 r4.length 1, .int .i64 s67.2.2, .ptr 2 (Int.toNat s67.2.2 * 1), .int .i64 x86] [[.cells 33 (Course.cells s67.1), .cells 42 (Starter.cells s67.2.1), .row 3 1 (List.map (encI .i64) r4)]] ([.cells 33 (Course.cells s67.1), .cells 42 (Starter.cells s67.2.1), .row 3 1 (List.map (encI .i64) r4)]) draws rfl rfl rfl rfl rfl rfl rfl rfl ?_ ?_
            · refine OblL.cons ?_ (OblL.cons ?_ (OblL.cons ?_ (OblL.cons ?_ (OblL.cons ?_ (OblL.cons ?_ (OblL.cons ?_ (OblL.cons ?_ (OblL.cons ?_ (OblL.cons ?_ (OblL.cons ?_ (OblL.cons ?_ (OblL.cons ?_ (OblL.cons ?_ (OblL.cons ?_ (OblL.cons ?_ (OblL.cons ?_ (OblL.cons ?_ (OblL.cons ?_ (OblL.cons ?_ (OblL.cons ?_ (OblL.cons ?_ (OblL.cons ?_ (OblL.cons ?_ (OblL.cons ?_ (OblL.cons ?_ (OblL.cons ?_ (OblL.cons ?_ (OblL.nil))))))))))))))))))))))))))))
              · refine OblL.stC ?_ (OblL.st0)
                · refine OblAt.mk _ [(5, .osl 2 0 r4.length 1)] 27 (.osl 2 0 r4.length 1) rfl rfl rfl (SubE.old rfl rfl SubE.nil) ?_
                  refine vV (x := (.osl 2 0 r4.length 1)) (OpV.move rfl rfl) ?_
                  exact WO.nil Post1.mk
              · refine OblL.stC ?_ (OblL.st0)
                · refine OblAt.mk _ [(6, .int .i64 s67.2.2)] 28 (.int .i64 s67.2.2) rfl rfl rfl (SubE.old rfl rfl SubE.nil) ?_
                  refine vV (x := (.int .i64 s67.2.2)) (OpV.move rfl rfl) ?_
                  exact WO.nil Post1.mk
              · refine OblL.stC ?_ (OblL.st0)
                · refine OblAt.mk _ [(27, .osl 2 0 r4.length 1), (28, .int .i64 s67.2.2)] 29 (.ptr 2 (Int.toNat s67.2.2 * 1)) rfl rfl rfl (SubE.dep 0 rfl rfl rfl (SubE.dep 1 rfl rfl rfl SubE.nil)) ?_
                  refine vV (x := (.ptr 2 (Int.toNat s67.2.2 * 1))) (OpV.ixW hx80 rfl Tryz.runUnderlying39 Tryz.sizeOf3) ?_
                  exact WO.nil Post1.mk
              · refine OblL.stC ?_ (OblL.st0)
                · refine OblAt.mk _ [(29, .ptr 2 (Int.toNat s67.2.2 * 1))] 30 (.int .i64 x80) rfl rfl rfl (SubE.dep 2 rfl rfl rfl SubE.nil) ?_
                  refine vV (x := (.int .i64 x80)) (OpV.load rfl Tryz.isAgg3 rfl (Pts.ofRow0 hx80)) ?_
                  exact WO.nil Post1.mk
              · refine OblL.stC ?_ (OblL.st0)
                · refine OblAt.mk _ [(30, .int .i64 x80)] 31 (.bool (decide (x80 < 0))) rfl rfl rfl (SubE.dep 3 rfl rfl rfl SubE.nil) ?_
                  refine vV (x := (.bool (decide (x80 < 0)))) (OpV.lss rfl rfl rfl) ?_
                  exact WO.nil Post1.mk
              · refine OblL.stC ?_ (OblL.st0)
                · refine OblAt.mk _ [(31, .bool (decide (x80 < 0)))] 32 (.bool (decide (x80 < 0))) rfl rfl rfl (SubE.dep 4 rfl rfl rfl SubE.nil) ?_
                  refine vV (x := (.bool (decide (x80 < 0)))) (OpV.move rfl rfl) ?_
                  exact WO.nil Post1.mk
              · refine OblL.stC ?_ (OblL.st0)
                · refine OblAt.mk _ [(5, .osl 2 0 r4.length 1), (32, .bool (decide (x80 < 0)))] 33 (.osl 2 0 r4.length 1) rfl rfl rfl (SubE.old rfl rfl (SubE.dep 5 rfl rfl rfl SubE.nil)) ?_
                  refine vV (x := (.osl 2 0 r4.length 1)) (OpV.move rfl rfl) ?_ (gT hg81)
                  exact WO.nil Post1.mk
              · refine OblL.stC ?_ (OblL.st0)
                · refine OblAt.mk _ [(6, .int .i64 s67.2.2), (32, .bool (decide (x80 < 0)))] 34 (.int .i64 s67.2.2) rfl rfl rfl (SubE.old rfl rfl (SubE.dep 5 rfl rfl rfl SubE.nil)) ?_
                  refine vV (x := (.int .i64 s67.2.2)) (OpV.move rfl rfl) ?_ (gT hg81)
                  exact WO.nil Post1.mk
              · refine OblL.stC ?_ (OblL.st0)
                · refine OblAt.mk _ [(32, .bool (decide (x80 < 0))), (33, .osl 2 0 r4.length 1), (34, .int .i64 s67.2.2)] 35 (.ptr 2 (Int.toNat s67.2.2 * 1)) rfl rfl rfl (SubE.dep 5 rfl rfl rfl (SubE.dep 6 rfl rfl rfl (SubE.dep 7 rfl rfl rfl SubE.nil))) ?_
                  refine vV (x := (.ptr 2 (Int.toNat s67.2.2 * 1))) (OpV.ixW hx82 rfl Tryz.runUnderlying39 Tryz.sizeOf3) ?_ (gT hg81)
                  exact WO.nil Post1.mk
              · refine OblL.stC ?_ (OblL.st0)
                · refine OblAt.mk _ [(32, .bool (decide (x80 < 0))), (35, .ptr 2 (Int.toNat s67.2.2 * 1))] 36 (.int .i64 x82) rfl rfl rfl (SubE.dep 5 rfl rfl rfl (SubE.dep 8 rfl rfl rfl SubE.nil)) ?_
                  refine vV (x := (.int .i64 x82)) (OpV.load rfl Tryz.isAgg3 rfl (Pts.ofRow0 hx82)) ?_ (gT hg81)
                  exact WO.nil Post1.mk
              · refine OblL.stC ?_ (OblL.st0)
                · refine OblAt.mk _ [(2, .ptr 0 0), (32, .bool (decide (x80 < 0)))] 37 (.ptr 0 6) rfl rfl rfl (SubE.old rfl rfl (SubE.dep 5 rfl rfl rfl SubE.nil)) ?_
                  refine vV (x := (.ptr 0 6)) (OpV.fieldP fa_33_6 rfl rfl) ?_ (gT hg81)
                  exact WO.nil Post1.mk
              · refine OblL.stC ?_ (OblL.st0)
                · refine OblAt.mk _ [(32, .bool (decide (x80 < 0))), (37, .ptr 0 6)] 38 (.rsl 3 (List.map Category.cells s67.1.Categories)) rfl rfl rfl (SubE.dep 5 rfl rfl rfl (SubE.dep 10 rfl rfl rfl SubE.nil)) ?_
                  refine vV (x := (.rsl 3 (List.map Category.cells s67.1.Categories))) (OpV.load rfl Tryz.isAgg27 rfl (Pts.cells rfl rfl)) ?_ (gT hg81)
                  exact WO.nil Post1.mk
              · refine OblL.stC ?_ (OblL.st0)
                · refine OblAt.mk _ [(32, .bool (decide (x80 < 0))), (38, .rsl 3 (List.map Category.cells s67.1.Categories))] 39 (.int .i64 (s67.1.Categories.length : Int)) rfl rfl rfl (SubE.dep 5 rfl rfl rfl (SubE.dep 11 rfl rfl rfl SubE.nil)) ?_
                  refine vV (x := (.int .i64 (s67.1.Categories.length : Int))) (OpV.lenM Tryz.runUnderlying27) ?_ (gT hg81)
                  exact WO.nil Post1.mk
              · refine OblL.stC ?_ (OblL.st0)
                · refine OblAt.mk _ [(32, .bool (decide (x80 < 0))), (36, .int .i64 x82), (39, .int .i64 (s67.1.Categories.length : Int))] 40 (.bool (decide ((s67.1.Categories.length : Int) ≤ x82))) rfl rfl rfl (SubE.dep 5 rfl rfl rfl (SubE.dep 9 rfl rfl rfl (SubE.dep 12 rfl rfl rfl SubE.nil))) ?_
                  refine vV (x := (.bool (decide ((s67.1.Categories.length : Int) ≤ x82)))) (OpV.geq rfl rfl rfl) ?_ (gT hg81)
                  exact WO.nil Post1.mk
              · refine OblL.stC ?_ (OblL.st0)
                · refine OblAt.mk _ [(32, .bool (decide (x80 < 0))), (40, .bool (decide ((s67.1.Categories.length : Int) ≤ x82)))] 41 (.bool (decide ((s67.1.Categories.length : Int) ≤ x82))) rfl rfl rfl (SubE.dep 5 rfl rfl rfl (SubE.dep 13 rfl rfl rfl SubE.nil)) ?_
                  refine vV (x := (.bool (decide ((s67.1.Categories.length : Int) ≤ x82)))) (OpV.pickF hg81) ?_
                  exact WO.nil Post1.mk
              · refine OblL.stC ?_ (OblL.st0)
                · refine OblAt.mk _ [(41, .bool (decide ((s67.1.Categories.length : Int) ≤ x82)))] 42 (.bool (decide ((s67.1.Categories.length : Int) ≤ x82))) rfl rfl rfl (SubE.dep 14 rfl rfl rfl SubE.nil) ?_
                  refine vV (x := (.bool (decide ((s67.1.Categories.length : Int) ≤ x82)))) (OpV.move rfl rfl) ?_
                  exact WO.nil Post1.mk
              · refine OblL.stC ?_ (OblL.st0)
                · refine OblAt.mk _ [(6, .int .i64 s67.2.2), (42, .bool (decide ((s67.1.Categories.length : Int) ≤ x82)))] 43 (.int .i64 s67.2.2) rfl rfl rfl (SubE.old rfl rfl (SubE.dep 15 rfl rfl rfl SubE.nil)) ?_
                  refine vV (x := (.int .i64 s67.2.2)) (OpV.move rfl rfl) ?_ (gT hg83)
                  exact WO.nil Post1.mk
              · refine OblL.stC ?_ (OblL.st0)
                · refine OblAt.mk _ [(42, .bool (decide ((s67.1.Categories.length : Int) ≤ x82))), (43, .int .i64 s67.2.2)] 44 (.bool (decide (0 < s67.2.2))) rfl rfl rfl (SubE.dep 15 rfl rfl rfl (SubE.dep 16 rfl rfl rfl SubE.nil)) ?_
                  refine vV (x := (.bool (decide (0 < s67.2.2)))) (OpV.gtr rfl rfl rfl) ?_ (gT hg83)
                  exact WO.nil Post1.mk
              · refine OblL.stC ?_ (OblL.st0)
                · refine OblAt.mk _ [(42, .bool (decide ((s67.1.Categories.length : Int) ≤ x82))), (44, .bool (decide (0 < s67.2.2)))] 45 (.bool (decide (0 < s67.2.2))) rfl rfl rfl (SubE.dep 15 rfl rfl rfl (SubE.dep 17 rfl rfl rfl SubE.nil)) ?_
                  refine vV (x := (.bool (decide (0 < s67.2.2)))) (OpV.move rfl rfl) ?_ (gT hg83)
                  exact WO.nil Post1.mk
              · refine OblL.stC ?_ (OblL.st0)
                · refine OblAt.mk _ [(5, .osl 2 0 r4.length 1), (45, .bool (decide (0 < s67.2.2)))] 46 (.osl 2 0 r4.length 1) rfl rfl rfl (SubE.old rfl rfl (SubE.dep 18 rfl rfl rfl SubE.nil)) ?_
                  refine vV (x := (.osl 2 0 r4.length 1)) (OpV.move rfl rfl) ?_ (gT hg84)
                  exact WO.nil Post1.mk
              · refine OblL.stC ?_ (OblL.st0)
                · refine OblAt.mk _ [(6, .int .i64 s67.2.2), (45, .bool (decide (0 < s67.2.2)))] 47 (.int .i64 s67.2.2) rfl rfl rfl (SubE.old rfl rfl (SubE.dep 18 rfl rfl rfl SubE.nil)) ?_
                  refine vV (x := (.int .i64 s67.2.2)) (OpV.move rfl rfl) ?_ (gT hg84)
                  exact WO.nil Post1.mk
              · refine OblL.stC ?_ (OblL.st0)
                · refine OblAt.mk _ [(45, .bool (decide (0 < s67.2.2))), (47, .int .i64 s67.2.2)] 48 (.int .i64 (IntKind.i64.wrap (s67.2.2 - 1))) rfl rfl rfl (SubE.dep 18 rfl rfl rfl (SubE.dep 20 rfl rfl rfl SubE.nil)) ?_
                  refine vV (x := (.int .i64 (IntKind.i64.wrap (s67.2.2 - 1)))) (OpV.sub rfl rfl rfl) ?_ (gT hg84)
                  exact WO.nil Post1.mk
              · refine OblL.stC ?_ (OblL.st0)
                · refine OblAt.mk _ [(45, .bool (decide (0 < s67.2.2))), (46, .osl 2 0 r4.length 1), (48, .int .i64 (IntKind.i64.wrap (s67.2.2 - 1)))] 49 (.ptr 2 (Int.toNat (IntKind.i64.wrap (s67.2.2 - 1)) * 1)) rfl rfl rfl (SubE.dep 18 rfl rfl rfl (SubE.dep 19 rfl rfl rfl (SubE.dep 21 rfl rfl rfl SubE.nil))) ?_
                  refine vV (x := (.ptr 2 (Int.toNat (IntKind.i64.wrap (s67.2.2 - 1)) * 1))) (OpV.ixW hx85 rfl Tryz.runUnderlying39 Tryz.sizeOf3) ?_ (gT hg84)
                  exact WO.nil Post1.mk
              · refine OblL.stC ?_ (OblL.st0)
                · refine OblAt.mk _ [(45, .bool (decide (0 < s67.2.2))), (49, .ptr 2 (Int.toNat (IntKind.i64.wrap (s67.2.2 - 1)) * 1))] 50 (.int .i64 x85) rfl rfl rfl (SubE.dep 18 rfl rfl rfl (SubE.dep 22 rfl rfl rfl SubE.nil)) ?_
                  refine vV (x := (.int .i64 x85)) (OpV.load rfl Tryz.isAgg3 rfl (Pts.ofRow0 hx85)) ?_ (gT hg84)
                  exact WO.nil Post1.mk
              · refine OblL.stC ?_ (OblL.st0)
                · refine OblAt.mk _ [(5, .osl 2 0 r4.length 1), (45, .bool (decide (0 < s67.2.2)))] 51 (.osl 2 0 r4.length 1) rfl rfl rfl (SubE.old rfl rfl (SubE.dep 18 rfl rfl rfl SubE.nil)) ?_
                  refine vV (x := (.osl 2 0 r4.length 1)) (OpV.move rfl rfl) ?_ (gT hg84)
                  exact WO.nil Post1.mk
              · refine OblL.stC ?_ (OblL.st0)
                · refine OblAt.mk _ [(6, .int .i64 s67.2.2), (45, .bool (decide (0 < s67.2.2)))] 52 (.int .i64 s67.2.2) rfl rfl rfl (SubE.old rfl rfl (SubE.dep 18 rfl rfl rfl SubE.nil)) ?_
                  refine vV (x := (.int .i64 s67.2.2)) (OpV.move rfl rfl) ?_ (gT hg84)
                  exact WO.nil Post1.mk
              · refine OblL.stC ?_ (OblL.st0)
                · refine OblAt.mk _ [(45, .bool (decide (0 < s67.2.2))), (51, .osl 2 0 r4.length 1), (52, .int .i64 s67.2.2)] 53 (.ptr 2 (Int.toNat s67.2.2 * 1)) rfl rfl rfl (SubE.dep 18 rfl rfl rfl (SubE.dep 24 rfl rfl rfl (SubE.dep 25 rfl rfl rfl SubE.nil))) ?_
                  refine vV (x := (.ptr 2 (Int.toNat s67.2.2 * 1))) (OpV.ixW hx86 rfl Tryz.runUnderlying39 Tryz.sizeOf3) ?_ (gT hg84)
                  exact WO.nil Post1.mk
              · refine OblL.stC ?_ (OblL.st0)
                · refine OblAt.mk _ [(45, .bool (decide (0 < s67.2.2))), (53, .ptr 2 (Int.toNat s67.2.2 * 1))] 54 (.int .i64 x86) rfl rfl rfl (SubE.dep 18 rfl rfl rfl (SubE.dep 26 rfl rfl rfl SubE.nil)) ?_
                  refine vV (x := (.int .i64 x86)) (OpV.load rfl Tryz.isAgg3 rfl (Pts.ofRow0 hx86)) ?_ (gT hg84)
                  exact WO.nil Post1.mk
            refine vV (x := (.bool (decide (x86 ≤ x85)))) (OpV.geq rfl rfl rfl) ?_ (gT hg84)
            refine vV (x := (.bool (decide (x86 ≤ x85)))) (OpV.pickT hg84) ?_ (gT hg83)
            refine vV (x := (.bool (decide (x86 ≤ x85)))) (OpV.pickF hg83) ?_
            refine WO.nil ?_
            obtain rfl := Option.some.inj h79
            refine cutN ?_
            exact Le.ren [0, 1, 2] rfl rfl (by decide) ⟨rfl, rfl, rfl, rfl, rfl, trivial⟩
          · have h79 := ifF hg84 h79
            refine TC.draw 28 0 [27, 28, 29, 30, 31, 32, 33, 34, 35, 36, 37, 38, 39, 40, 41, 42, 43, 44, 45, 46, 47, 48, 49, 50, 51, 52, 53, 54] [0, 0, 0, 0, 0, 0, 0, 0, 0, 0, 0, 0, 0, 0, 0, 0, 0, 0, 0, 0, 0, 0, 0, 0, 0, 0, 0, 0] [false, false, false, false, false, false, false, false, false, false, false, false, false, false, false, false, false, false, false, false, false, false, false, false, false, false, false, false] [.osl 2 0 r4.length 1, .int .i64 s67.2.2, .ptr 2 (Int.toNat s67.2.2 * 1), .int .i64 x80, .bool (decide (x80 < 0)), .bool (decide (x80 < 0)), .osl 2 0 r4.length 1, .int .i64 s67.2.2, .ptr 2 (Int.toNat s67.2.2 * 1), .int .i64 x82, .ptr 0 6, .rsl 3 (List.map Category.cells s67.1.Categories), .int .i64 (s67.1.Categories.length : Int), .bool (decide ((s67.1.Categories.length : Int) ≤ x82)), .bool (decide ((s67.1.Categories.length : Int) ≤ x82)), .bool (decide ((s67.1.Categories.length : Int) ≤ x82)), .int .i64 s67.2.2, .bool (decide (0 < s67.2.2)), .bool (decide (0 < s67.2.2)), .tup [], .tup [], .tup [], .tup [], .tup [], .tup [], .tup [], .tup [], .tup []] [[.cells 33 (Course.cells s67.1), .cells 42 (Starter.cells s67.2.1), .row 3 1 (List.map (encI .i64) r4)]] ([.cells 33 (Course.cells s67.1), .cells 42 (Starter.cells s67.2.1), .row 3 1 (List.map (encI .i64) r4)]) draws rfl rfl rfl rfl rfl rfl rfl rfl ?_ ?_
            · refine OblL.cons ?_ (OblL.cons ?_ (OblL.cons ?_ (OblL.cons ?_ (OblL.cons ?_ (OblL.cons ?_ (OblL.cons ?_ (OblL.cons ?_ (OblL.cons ?_ (OblL.cons ?_ (OblL.cons ?_ (OblL.cons ?_ (OblL.cons ?_ (OblL.cons ?_ (OblL.cons ?_ (OblL.cons ?_ (OblL.cons ?_ (OblL.cons ?_ (OblL.cons ?_ (OblL.cons ?_ (OblL.cons ?_ (OblL.cons ?_ (OblL.cons ?_ (OblL.cons ?_ (OblL.cons ?_ (OblL.cons ?_ (OblL.cons ?_ (OblL.cons ?_ (OblL.nil))))))))))))))))))))))))))))
              · refine OblL.stC ?_ (OblL.st0)
                · refine OblAt.mk _ [(5, .osl 2 0 r4.length 1)] 27 (.osl 2 0 r4.length 1) rfl rfl rfl (SubE.old rfl rfl SubE.nil) ?_
                  refine vV (x := (.osl 2 0 r4.length 1)) (OpV.move rfl rfl) ?_
                  exact WO.nil Post1.mk
              · refine OblL.stC ?_ (OblL.st0)
                · refine OblAt.mk _ [(6, .int .i64 s67.2.2)] 28 (.int .i64 s67.2.2) rfl rfl rfl (SubE.old rfl rfl SubE.nil) ?_
                  refine vV (x := (.int .i64 s67.2.2)) (OpV.move rfl rfl) ?_
                  exact WO.nil Post1.mk
              · refine OblL.stC ?_ (OblL.st0)
                · refine OblAt.mk _ [(27, .osl 2 0 r4.length 1), (28, .int .i64 s67.2.2)] 29 (.ptr 2 (Int.toNat s67.2.2 * 1)) rfl rfl rfl (SubE.dep 0 rfl rfl rfl (SubE.dep 1 rfl rfl rfl SubE.nil)) ?_
                  refine vV (x := (.ptr 2 (Int.toNat s67.2.2 * 1))) (OpV.ixW hx80 rfl Tryz.runUnderlying39 Tryz.sizeOf3) ?_
                  exact WO.nil Post1.mk
              · refine OblL.stC ?_ (OblL.st0)
                · refine OblAt.mk _ [(29, .ptr 2 (Int.toNat s67.2.2 * 1))] 30 (.int .i64 x80) rfl rfl rfl (SubE.dep 2 rfl rfl rfl SubE.nil) ?_
                  refine vV (x := (.int .i64 x80)) (OpV.load rfl Tryz.isAgg3 rfl (Pts.ofRow0 hx80)) ?_
                  exact WO.nil Post1.mk
              · refine OblL.stC ?_ (OblL.st0)
                · refine OblAt.mk _ [(30, .int .i64 x80)] 31 (.bool (decide (x80 < 0))) rfl rfl rfl (SubE.dep 3 rfl rfl rfl SubE.nil) ?_
                  refine vV (x := (.bool (decide (x80 < 0)))) (OpV.lss rfl rfl rfl) ?_
                  exact WO.nil Post1.mk
              · refine OblL.stC ?_ (OblL.st0)
                · refine OblAt.mk _ [(31, .bool (decide (x80 < 0)))] 32 (.bool (decide (x80 < 0))) rfl rfl rfl (SubE.dep 4 rfl rfl rfl SubE.nil) ?_
                  refine vV (x := (.bool (decide (x80 < 0)))) (OpV.move rfl rfl) ?_
                  exact WO.nil Post1.mk
              · refine OblL.stC ?_ (OblL.st0)
                · refine OblAt.mk _ [(5, .osl 2 0 r4.length 1), (32, .bool (decide (x80 < 0)))] 33 (.osl 2 0 r4.length 1) rfl rfl rfl (SubE.old rfl rfl (SubE.dep 5 rfl rfl rfl SubE.nil)) ?_
                  refine vV (x := (.osl 2 0 r4.length 1)) (OpV.move rfl rfl) ?_ (gT hg81)
                  exact WO.nil Post1.mk
              · refine OblL.stC ?_ (OblL.st0)
                · refine OblAt.mk _ [(6, .int .i64 s67.2.2), (32, .bool (decide (x80 < 0)))] 34 (.int .i64 s67.2.2) rfl rfl rfl (SubE.old rfl rfl (SubE.dep 5 rfl rfl rfl SubE.nil)) ?_
                  refine vV (x := (.int .i64 s67.2.2)) (OpV.move rfl rfl) ?_ (gT hg81)
                  exact WO.nil Post1.mk
              · refine OblL.stC ?_ (OblL.st0)
                · refine OblAt.mk _ [(32, .bool (decide (x80 < 0))), (33, .osl 2 0 r4.length 1), (34, .int .i64 s67.2.2)] 35 (.ptr 2 (Int.toNat s67.2.2 * 1)) rfl rfl rfl (SubE.dep 5 rfl rfl rfl (SubE.dep 6 rfl rfl rfl (SubE.dep 7 rfl rfl rfl SubE.nil))) ?_
                  refine vV (x := (.ptr 2 (Int.toNat s67.2.2 * 1))) (OpV.ixW hx82 rfl Tryz.runUnderlying39 Tryz.sizeOf3) ?_ (gT hg81)
                  exact WO.nil Post1.mk
              · refine OblL.stC ?_ (OblL.st0)
                · refine OblAt.mk _ [(32, .bool (decide (x80 < 0))), (35, .ptr 2 (Int.toNat s67.2.2 * 1))] 36 (.int .i64 x82) rfl rfl rfl (SubE.dep 5 rfl rfl rfl (SubE.dep 8 rfl rfl rfl SubE.nil)) ?_
                  refine vV (x := (.int .i64 x82)) (OpV.load rfl Tryz.isAgg3 rfl (Pts.ofRow0 hx82)) ?_ (gT hg81)
                  exact WO.nil Post1.mk
              · refine OblL.stC ?_ (OblL.st0)
                · refine OblAt.mk _ [(2, .ptr 0 0), (32, .bool (decide (x80 < 0)))] 37 (.ptr 0 6) rfl rfl rfl (SubE.old rfl rfl (SubE.dep 5 rfl rfl rfl SubE.nil)) ?_
                  refine vV (x := (.ptr 0 6)) (OpV.fieldP fa_33_6 rfl rfl) ?_ (gT hg81)
                  exact WO.nil Post1.mk
              · refine OblL.stC ?_ (OblL.st0)
                · refine OblAt.mk _ [(32, .bool (decide (x80 < 0))), (37, .ptr 0 6)] 38 (.rsl 3 (List.map Category.cells s67.1.Categories)) rfl rfl rfl (SubE.dep 5 rfl rfl rfl (SubE.dep 10 rfl rfl rfl SubE.nil)) ?_
                  refine vV (x := (.rsl 3 (List.map Category.cells s67.1.Categories))) (OpV.load rfl Tryz.isAgg27 rfl (Pts.cells rfl rfl)) ?_ (gT hg81)
                  exact WO.nil Post1.mk
              · refine OblL.stC ?_ (OblL.st0)
                · refine OblAt.mk _ [(32, .bool (decide (x80 < 0))), (38, .rsl 3 (List.map Category.cells s67.1.Categories))] 39 (.int .i64 (s67.1.Categories.length : Int)) rfl rfl rfl (SubE.dep 5 rfl rfl rfl (SubE.dep 11 rfl rfl rfl SubE.nil)) ?_
                  refine vV (x := (.int .i64 (s67.1.Categories.length : Int))) (OpV.lenM Tryz.runUnderlying27) ?_ (gT hg81)
                  exact WO.nil Post1.mk
              · refine OblL.stC ?_ (OblL.st0)
                · refine OblAt.mk _ [(32, .bool (decide (x80 < 0))), (36, .int .i64 x82), (39, .int .i64 (s67.1.Categories.length : Int))] 40 (.bool (decide ((s67.1.Categories.length : Int) ≤ x82))) rfl rfl rfl (SubE.dep 5 rfl rfl rfl (SubE.dep 9 rfl rfl rfl (SubE.dep 12 rfl rfl rfl SubE.nil))) ?_
                  refine vV (x := (.bool (decide ((s67.1.Categories.length : Int) ≤ x82)))) (OpV.geq rfl rfl rfl) ?_ (gT hg81)
                  exact WO.nil Post1.mk
              · refine OblL.stC ?_ (OblL.st0)
                · refine OblAt.mk _ [(32, .bool (decide (x80 < 0))), (40, .bool (decide ((s67.1.Categories.length : Int) ≤ x82)))] 41 (.bool (decide ((s67.1.Categories.length : Int) ≤ x82))) rfl rfl rfl (SubE.dep 5 rfl rfl rfl (SubE.dep 13 rfl rfl rfl SubE.nil)) ?_
                  refine vV (x := (.bool (decide ((s67.1.Categories.length : Int) ≤ x82)))) (OpV.pickF hg81) ?_
                  exact WO.nil Post1.mk
              · refine OblL.stC ?_ (OblL.st0)
                · refine OblAt.mk _ [(41, .bool (decide ((s67.1.Categories.length : Int) ≤ x82)))] 42 (.bool (decide ((s67.1.Categories.length : Int) ≤ x82))) rfl rfl rfl (SubE.dep 14 rfl rfl rfl SubE.nil) ?_
                  refine vV (x := (.bool (decide ((s67.1.Categories.length : Int) ≤ x82)))) (OpV.move rfl rfl) ?_
                  exact WO.nil Post1.mk
              · refine OblL.stC ?_ (OblL.st0)
                · refine OblAt.mk _ [(6, .int .i64 s67.2.2), (42, .bool (decide ((s67.1.Categories.length : Int) ≤ x82)))] 43 (.int .i64 s67.2.2) rfl rfl rfl (SubE.old rfl rfl (SubE.dep 15 rfl rfl rfl SubE.nil)) ?_
                  refine vV (x := (.int .i64 s67.2.2)) (OpV.move rfl rfl) ?_ (gT hg83)
                  exact WO.nil Post1.mk
              · refine OblL.stC ?_ (OblL.st0)
                · refine OblAt.mk _ [(42, .bool (decide ((s67.1.Categories.length : Int) ≤ x82))), (43, .int .i64 s67.2.2)] 44 (.bool (decide (0 < s67.2.2))) rfl rfl rfl (SubE.dep 15 rfl rfl rfl (SubE.dep 16 rfl rfl rfl SubE.nil)) ?_
                  refine vV (x := (.bool (decide (0 < s67.2.2)))) (OpV.gtr rfl rfl rfl) ?_ (gT hg83)
                  exact WO.nil Post1.mk
              · refine OblL.stC ?_ (OblL.st0)
                · refine OblAt.mk _ [(42, .bool (decide ((s67.1.Categories.length : Int) ≤ x82))), (44, .bool (decide (0 < s67.2.2)))] 45 (.bool (decide (0 < s67.2.2))) rfl rfl rfl (SubE.dep 15 rfl rfl rfl (SubE.dep 17 rfl rfl rfl SubE.nil)) ?_
                  refine vV (x := (.bool (decide (0 < s67.2.2)))) (OpV.move rfl rfl) ?_ (gT hg83)
                  exact WO.nil Post1.mk
              · refine OblL.stC ?_ (OblL.st0)
                · refine OblAt.mk _ [(5, .osl 2 0 r4.length 1), (45, .bool (decide (0 < s67.2.2)))] 46 (.tup []) rfl rfl rfl (SubE.old rfl rfl (SubE.dep 18 rfl rfl rfl SubE.nil)) ?_
                  refine vS (gF hg84) ?_
                  exact WO.nil Post1.mk
              · refine OblL.stC ?_ (OblL.st0)
                · refine OblAt.mk _ [(6, .int .i64 s67.2.2), (45, .bool (decide (0 < s67.2.2)))] 47 (.tup []) rfl rfl rfl (SubE.old rfl rfl (SubE.dep 18 rfl rfl rfl SubE.nil)) ?_
                  refine vS (gF hg84) ?_
                  exact WO.nil Post1.mk
              · refine OblL.stC ?_ (OblL.st0)
                · refine OblAt.mk _ [(45, .bool (decide (0 < s67.2.2))), (47, .tup [])] 48 (.tup []) rfl rfl rfl (SubE.dep 18 rfl rfl rfl (SubE.dep 20 rfl rfl rfl SubE.nil)) ?_
                  refine vS (gF hg84) ?_
                  exact WO.nil Post1.mk
              · refine OblL.stC ?_ (OblL.st0)
                · refine OblAt.mk _ [(45, .bool (decide (0 < s67.2.2))), (46, .tup []), (48, .tup [])] 49 (.tup []) rfl rfl rfl (SubE.dep 18 rfl rfl rfl (SubE.dep 19 rfl rfl rfl (SubE.dep 21 rfl rfl rfl SubE.nil))) ?_
                  refine vS (gF hg84) ?_
                  exact WO.nil Post1.mk
              · refine OblL.stC ?_ (OblL.st0)
                · refine OblAt.mk _ [(45, .bool (decide (0 < s67.2.2))), (49, .tup [])] 50 (.tup []) rfl rfl rfl (SubE.dep 18 rfl rfl rfl (SubE.dep 22 rfl rfl rfl SubE.nil)) ?_
                  refine vS (gF hg84) ?_
                  exact WO.nil Post1.mk
              · refine OblL.stC ?_ (OblL.st0)
                · refine OblAt.mk _ [(5, .osl 2 0 r4.length 1), (45, .bool (decide (0 < s67.2.2)))] 51 (.tup []) rfl rfl rfl (SubE.old rfl rfl (SubE.dep 18 rfl rfl rfl SubE.nil)) ?_
                  refine vS (gF hg84) ?_
                  exact WO.nil Post1.mk
              · refine OblL.stC ?_ (OblL.st0)
                · refine OblAt.mk _ [(6, .int .i64 s67.2.2), (45, .bool (decide (0 < s67.2.2)))] 52 (.tup []) rfl rfl rfl (SubE.old rfl rfl (SubE.dep 18 rfl rfl rfl SubE.nil)) ?_
                  refine vS (gF hg84) ?_
                  exact WO.nil Post1.mk
              · refine OblL.stC ?_ (OblL.st0)
                · refine OblAt.mk _ [(45, .bool (decide (0 < s67.2.2))), (51, .tup []), (52, .tup [])] 53 (.tup []) rfl rfl rfl (SubE.dep 18 rfl rfl rfl (SubE.dep 24 rfl rfl rfl (SubE.dep 25 rfl rfl rfl SubE.nil))) ?_
                  refine vS (gF hg84) ?_
                  exact WO.nil Post1.mk
              · refine OblL.stC ?_ (OblL.st0)
                · refine OblAt.mk _ [(45, .bool (decide (0 < s67.2.2))), (53, .tup [])] 54 (.tup []) rfl rfl rfl (SubE.dep 18 rfl rfl rfl (SubE.dep 26 rfl rfl rfl SubE.nil)) ?_
                  refine vS (gF hg84) ?_
                  exact WO.nil Post1.mk
            refine vS (gF hg84) ?_
            refine vV (x := (.bool false)) (OpV.pickF hg84) ?_ (gT hg83)
            refine vV (x := (.bool false)) (OpV.pickF hg83) ?_
            refine WO.nil ?_
            obtain rfl := Option.some.inj h79
            refine cutN ?_
            exact Le.ren [0, 1, 2] rfl rfl (by decide) ⟨rfl, rfl, rfl, rfl, rfl, trivial⟩
    refine seqN (TC.le hle ?_)
    refine TC.cond rfl (fun hc87 => ?_) (fun hc87 => ?_)
    · have h69 := ifT hc87 h69
      refine TC.seq ?_
      refine TC.region ?_
      refine vV (x := (.bool false)) (OpV.assign rfl rfl) ?_
      refine WO.nil ?_
      refine seqN ?_
      refine TC.ret ?_
      refine seqR ?_
      refine bloR ?_
      refine seqR ?_
      refine loopR h69 ?_
      obtain rfl := hb66 _ (Option.some.inj h69).symm
      refine bloR ?_
      refine cutER ?_
      refine seqR ?_
      obtain rfl := Option.some.inj h
      refine ⟨[(4, .bool false)], [], _, ?_, ResOK.one rfl rfl, rfl, rfl⟩
      exact Le.ren [] rfl rfl (by decide) ⟨rfl, trivial⟩
    have h69 := ifF hc87 h69
    refine TC.skip ?_
    refine seqN ?_
    refine TC.seq ?_
    obtain ⟨x88, hx88, h69⟩ := bnd h69
    obtain ⟨r89, hr89, h69⟩ := bnd h69
    refine TC.draw 10 0 [59, 60, 61, 62, 63, 64, 58, 65, 66, 7] [0, 0, 0, 0, 0, 0, 0, 0, 0, 0] [false, false, false, false, false, false, false, false, false, false] [.agg (Course.cells b78.1), .osl 2 0 r4.length 1, .int .i64 s67.2.2, .ptr 2 (Int.toNat s67.2.2 * 1), .int .i64 x88, .tup [.str r89.1, .int .i64 r89.2], .tup [.str r89.1, .int .i64 r89.2], .str r89.1, .int .i64 r89.2, .str r89.1] [[.cells 33 (Course.cells b78.1), .cells 42 (Starter.cells b78.2.1), .row 3 1 (List.map (encI .i64) r4)]] ([.cells 33 (Course.cells b78.1), .cells 42 (Starter.cells b78.2.1), .row 3 1 (List.map (encI .i64) r4)]) draws rfl rfl rfl rfl rfl rfl rfl rfl ?_ ?_
    · refine OblL.cons ?_ (OblL.cons ?_ (OblL.cons ?_ (OblL.cons ?_ (OblL.cons ?_ (OblL.cons ?_ (OblL.cons ?_ (OblL.cons ?_ (OblL.cons ?_ (OblL.cons ?_ (OblL.nil))))))))))
      · refine OblL.stC ?_ (OblL.st0)
        · refine OblAt.mk _ [(2, .ptr 0 0)] 59 (.agg (Course.cells b78.1)) rfl rfl rfl (SubE.old rfl rfl SubE.nil) ?_
          refine vV (x := (.agg (Course.cells b78.1))) (OpV.loadA rfl Tryz.isAgg33 Tryz.sizeOf33 rfl (Pts.cells rfl rfl) rfl rfl) ?_
          exact WO.nil Post1.mk
      · refine OblL.stC ?_ (OblL.st0)
        · refine OblAt.mk _ [(5, .osl 2 0 r4.length 1)] 60 (.osl 2 0 r4.length 1) rfl rfl rfl (SubE.old rfl rfl SubE.nil) ?_
          refine vV (x := (.osl 2 0 r4.length 1)) (OpV.move rfl rfl) ?_
          exact WO.nil Post1.mk
      · refine OblL.stC ?_ (OblL.st0)
        · refine OblAt.mk _ [(6, .int .i64 s67.2.2)] 61 (.int .i64 s67.2.2) rfl rfl rfl (SubE.old rfl rfl SubE.nil) ?_
          refine vV (x := (.int .i64 s67.2.2)) (OpV.move rfl rfl) ?_
          exact WO.nil Post1.mk
      · refine OblL.stC ?_ (OblL.st0)
        · refine OblAt.mk _ [(60, .osl 2 0 r4.length 1), (61, .int .i64 s67.2.2)] 62 (.ptr 2 (Int.toNat s67.2.2 * 1)) rfl rfl rfl (SubE.dep 1 rfl rfl rfl (SubE.dep 2 rfl rfl rfl SubE.nil)) ?_
          refine vV (x := (.ptr 2 (Int.toNat s67.2.2 * 1))) (OpV.ixW hx88 rfl Tryz.runUnderlying39 Tryz.sizeOf3) ?_
          exact WO.nil Post1.mk
      · refine OblL.stC ?_ (OblL.st0)
        · refine OblAt.mk _ [(62, .ptr 2 (Int.toNat s67.2.2 * 1))] 63 (.int .i64 x88) rfl rfl rfl (SubE.dep 3 rfl rfl rfl SubE.nil) ?_
          refine vV (x := (.int .i64 x88)) (OpV.load rfl Tryz.isAgg3 rfl (Pts.ofRow0 hx88)) ?_
          exact WO.nil Post1.mk
      · refine OblL.stC ?_ (OblL.st0)
        · refine OblAt.mk _ [(59, .agg (Course.cells b78.1)), (63, .int .i64 x88)] 64 (.tup [.str r89.1, .int .i64 r89.2]) rfl rfl rfl (SubE.dep 0 rfl rfl rfl (SubE.dep 4 rfl rfl rfl SubE.nil)) ?_
          refine WO.callD [] (OpC.fn Tryz.call14 rfl rfl rfl) (ok_categories_Name _ _ _ _ hr89) ?_
          rintro _ _ ⟨rfl, rfl⟩
          refine WO.atV (x := (.tup [.str r89.1, .int .i64 r89.2])) (H := [.cells 33 (Course.cells b78.1), .cells 42 (Starter.cells b78.2.1), .row 3 1 (List.map (encI .i64) r4)]) rfl rfl ?_
          exact WO.nil Post1.mk
      · refine OblL.stC ?_ (OblL.st0)
        · refine OblAt.mk _ [(64, .tup [.str r89.1, .int .i64 r89.2])] 58 (.tup [.str r89.1, .int .i64 r89.2]) rfl rfl rfl (SubE.dep 5 rfl rfl rfl SubE.nil) ?_
          refine vV (x := (.tup [.str r89.1, .int .i64 r89.2])) (OpV.move rfl rfl) ?_
          exact WO.nil Post1.mk
      · refine OblL.stC ?_ (OblL.st0)
        · refine OblAt.mk _ [(58, .tup [.str r89.1, .int .i64 r89.2])] 65 (.str r89.1) rfl rfl rfl (SubE.dep 6 rfl rfl rfl SubE.nil) ?_
          refine vV (x := (.str r89.1)) (OpV.extract rfl rfl rfl) ?_
          exact WO.nil Post1.mk
      · refine OblL.stC ?_ (OblL.st0)
        · refine OblAt.mk _ [(58, .tup [.str r89.1, .int .i64 r89.2])] 66 (.int .i64 r89.2) rfl rfl rfl (SubE.dep 6 rfl rfl rfl SubE.nil) ?_
          refine vV (x := (.int .i64 r89.2)) (OpV.extract rfl rfl rfl) ?_
          exact WO.nil Post1.mk
      · refine OblL.stC ?_ (OblL.st0)
        · refine OblAt.mk _ [(65, .str r89.1)] 7 (.str r89.1) rfl rfl rfl (SubE.dep 7 rfl rfl rfl SubE.nil) ?_
          refine vV (x := (.str r89.1)) (OpV.assign rfl rfl) ?_
          exact WO.nil Post1.mk
    refine vV (x := (.int .i64 r89.2)) (OpV.assign rfl rfl) ?_
    refine WO.nil ?_
    refine seqN ?_
    refine TC.seq ?_
    obtain ⟨b93, h94, h69⟩ := bnd h69
    refine TC.cut ([(2, .ptr 0 0), (3, .ptr 1 0), (5, .osl 2 0 r4.length 1), (6, .int .i64 s67.2.2), (81, .bool b93.2.2)]) ([.cells 33 (Course.cells b93.1), .cells 42 (Starter.cells b93.2.1), .row 3 1 (List.map (encI .i64) r4)]) ?_ (fun env H hle => ?_)
    ·
      rcases bTF ((r89.2 != 0)) with hg95 | hg95
      · have h94 := ifT hg95 h94
        refine TC.draw 13 0 [67, 68, 69, 70, 71, 72, 73, 74, 75, 76, 77, 78, 79] [0, 0, 0, 0, 0, 0, 0, 0, 0, 0, 0, 0, 0] [false, false, false, false, false, false, false, false, false, false, false, false, false] [.int .i64 r89.2, .bool (r89.2 != 0), .bool (r89.2 != 0), .tup [], .tup [], .tup [], .tup [], .tup [], .tup [], .tup [], .tup [], .tup [], .tup []] [[.cells 33 (Course.cells b78.1), .cells 42 (Starter.cells b78.2.1), .row 3 1 (List.map (encI .i64) r4)]] ([.cells 33 (Course.cells b78.1), .cells 42 (Starter.cells b78.2.1), .row 3 1 (List.map (encI .i64) r4)]) draws rfl rfl rfl rfl rfl rfl rfl rfl ?_ ?_
        · refine OblL.cons ?_ (OblL.cons ?_ (OblL.cons ?_ (OblL.cons ?_ (OblL.cons ?_ (OblL.cons ?_ (OblL.cons ?_ (OblL.cons ?_ (OblL.cons ?_ (OblL.cons ?_ (OblL.cons ?_ (OblL.cons ?_ (OblL.cons ?_ (OblL.nil)))))))))))))
          · refine OblL.stC ?_ (OblL.st0)
            · refine OblAt.mk _ [(8, .int .i64 r89.2)] 67 (.int .i64 r89.2) rfl rfl rfl (SubE.old rfl rfl SubE.nil) ?_
              refine vV (x := (.int .i64 r89.2)) (OpV.move rfl rfl) ?_
              exact WO.nil Post1.mk
          · refine OblL.stC ?_ (OblL.st0)
            · refine OblAt.mk _ [(67, .int .i64 r89.2)] 68 (.bool (r89.2 != 0)) rfl rfl rfl (SubE.dep 0 rfl rfl rfl SubE.nil) ?_
              refine vV (x := (.bool (r89.2 != 0))) (OpV.neq rfl rfl rfl) ?_
              exact WO.nil Post1.mk
          · refine OblL.stC ?_ (OblL.st0)
            · refine OblAt.mk _ [(68, .bool (r89.2 != 0))] 69 (.bool (r89.2 != 0)) rfl rfl rfl (SubE.dep 1 rfl rfl rfl SubE.nil) ?_
              refine vV (x := (.bool (r89.2 != 0))) (OpV.move rfl rfl) ?_
              exact WO.nil Post1.mk
          · refine OblL.stC ?_ (OblL.st0)
            · refine OblAt.mk _ [(7, .str r89.1), (69, .bool (r89.2 != 0))] 70 (.tup []) rfl rfl rfl (SubE.old rfl rfl (SubE.dep 2 rfl rfl rfl SubE.nil)) ?_
              refine vS (gF hg95) ?_
              exact WO.nil Post1.mk
          · refine OblL.stC ?_ (OblL.st0)
            · refine OblAt.mk _ [(2, .ptr 0 0), (69, .bool (r89.2 != 0))] 71 (.tup []) rfl rfl rfl (SubE.old rfl rfl (SubE.dep 2 rfl rfl rfl SubE.nil)) ?_
              refine vS (gF hg95) ?_
              exact WO.nil Post1.mk
          · refine OblL.stC ?_ (OblL.st0)
            · refine OblAt.mk _ [(69, .bool (r89.2 != 0)), (71, .tup [])] 72 (.tup []) rfl rfl rfl (SubE.dep 2 rfl rfl rfl (SubE.dep 4 rfl rfl rfl SubE.nil)) ?_
              refine vS (gF hg95) ?_
              exact WO.nil Post1.mk
          · refine OblL.stC ?_ (OblL.st0)
            · refine OblAt.mk _ [(5, .osl 2 0 r4.length 1), (69, .bool (r89.2 != 0))] 73 (.tup []) rfl rfl rfl (SubE.old rfl rfl (SubE.dep 2 rfl rfl rfl SubE.nil)) ?_
              refine vS (gF hg95) ?_
              exact WO.nil Post1.mk
          · refine OblL.stC ?_ (OblL.st0)
            · refine OblAt.mk _ [(6, .int .i64 s67.2.2), (69, .bool (r89.2 != 0))] 74 (.tup []) rfl rfl rfl (SubE.old rfl rfl (SubE.dep 2 rfl rfl rfl SubE.nil)) ?_
              refine vS (gF hg95) ?_
              exact WO.nil Post1.mk
          · refine OblL.stC ?_ (OblL.st0)
            · refine OblAt.mk _ [(69, .bool (r89.2 != 0)), (73, .tup []), (74, .tup [])] 75 (.tup []) rfl rfl rfl (SubE.dep 2 rfl rfl rfl (SubE.dep 6 rfl rfl rfl (SubE.dep 7 rfl rfl rfl SubE.nil))) ?_
              refine vS (gF hg95) ?_
              exact WO.nil Post1.mk
          · refine OblL.stC ?_ (OblL.st0)
            · refine OblAt.mk _ [(69, .bool (r89.2 != 0)), (75, .tup [])] 76 (.tup []) rfl rfl rfl (SubE.dep 2 rfl rfl rfl (SubE.dep 8 rfl rfl rfl SubE.nil)) ?_
              refine vS (gF hg95) ?_
              exact WO.nil Post1.mk
          · refine OblL.stC ?_ (OblL.st0)
            · refine OblAt.mk _ [(69, .bool (r89.2 != 0)), (72, .tup []), (76, .tup [])] 77 (.tup []) rfl rfl rfl (SubE.dep 2 rfl rfl rfl (SubE.dep 5 rfl rfl rfl (SubE.dep 9 rfl rfl rfl SubE.nil))) ?_
              refine vS (gF hg95) ?_
              exact WO.nil Post1.mk
          · refine OblL.stC ?_ (OblL.st0)
            · refine OblAt.mk _ [(69, .bool (r89.2 != 0)), (77, .tup [])] 78 (.tup []) rfl rfl rfl (SubE.dep 2 rfl rfl rfl (SubE.dep 10 rfl rfl rfl SubE.nil)) ?_
              refine vS (gF hg95) ?_
              exact WO.nil Post1.mk
          · refine OblL.stC ?_ (OblL.st0)
            · refine OblAt.mk _ [(69, .bool (r89.2 != 0)), (78, .tup [])] 79 (.tup []) rfl rfl rfl (SubE.dep 2 rfl rfl rfl (SubE.dep 11 rfl rfl rfl SubE.nil)) ?_
              refine vS (gF hg95) ?_
              exact WO.nil Post1.mk
        refine vS (gF hg95) ?_
        refine vV (x := (.bool true)) (OpV.pickT hg95) ?_
        refine WO.nil ?_
        obtain rfl := Option.some.inj h94
        refine cutN ?_
        exact Le.ren [0, 1, 2] rfl rfl (by decide) ⟨rfl, rfl, rfl, rfl, rfl, trivial⟩
      · have h94 := ifF hg95 h94
        obtain ⟨x96, hx96, h94⟩ := bnd h94
        obtain ⟨x97, hx97, h94⟩ := bnd h94
        refine TC.draw 13 0 [67, 68, 69, 70, 71, 72, 73, 74, 75, 76, 77, 78, 79] [0, 0, 0, 0, 0, 0, 0, 0, 0, 0, 0, 0, 0] [false, false, false, false, false, false, false, false, false, false, false, false, false] [.int .i64 r89.2, .bool (r89.2 != 0), .bool (r89.2 != 0), .str r89.1, .ptr 0 6, .rsl 3 (List.map Category.cells b78.1.Categories), .osl 2 0 r4.length 1, .int .i64 s67.2.2, .ptr 2 (Int.toNat s67.2.2 * 1), .int .i64 x96, .rp [.str x97.Name, .int .i64 x97.From, .int .i64 x97.To], .rp [.str x97.Name, .int .i64 x97.From, .int .i64 x97.To], .str x97.Name] [[.cells 33 (Course.cells b78.1), .cells 42 (Starter.cells b78.2.1), .row 3 1 (List.map (encI .i64) r4)]] ([.cells 33 (Course.cells b78.1), .cells 42 (Starter.cells b78.2.1), .row 3 1 (List.map (encI .i64) r4)]) draws rfl rfl rfl rfl rfl rfl rfl rfl ?_ ?_
        · refine OblL.cons ?_ (OblL.cons ?_ (OblL.cons ?_ (OblL.cons ?_ (OblL.cons ?_ (OblL.cons ?_ (OblL.cons ?_ (OblL.cons ?_ (OblL.cons ?_ (OblL.cons ?_ (OblL.cons ?_ (OblL.cons ?_ (OblL.cons ?_ (OblL.nil)))))))))))))
          · refine OblL.stC ?_ (OblL.st0)
            · refine OblAt.mk _ [(8, .int .i64 r89.2)] 67 (.int .i64 r89.2) rfl rfl rfl (SubE.old rfl rfl SubE.nil) ?_
              refine vV (x := (.int .i64 r89.2)) (OpV.move rfl rfl) ?_
              exact WO.nil Post1.mk
          · refine OblL.stC ?_ (OblL.st0)
            · refine OblAt.mk _ [(67, .int .i64 r89.2)] 68 (.bool (r89.2 != 0)) rfl rfl rfl (SubE.dep 0 rfl rfl rfl SubE.nil) ?_
              refine vV (x := (.bool (r89.2 != 0))) (OpV.neq rfl rfl rfl) ?_
              exact WO.nil Post1.mk
          · refine OblL.stC ?_ (OblL.st0)
            · refine OblAt.mk _ [(68, .bool (r89.2 != 0))] 69 (.bool (r89.2 != 0)) rfl rfl rfl (SubE.dep 1 rfl rfl rfl SubE.nil) ?_
              refine vV (x := (.bool (r89.2 != 0))) (OpV.move rfl rfl) ?_
              exact WO.nil Post1.mk
          · refine OblL.stC ?_ (OblL.st0)
            · refine OblAt.mk _ [(7, .str r89.1), (69, .bool (r89.2 != 0))] 70 (.str r89.1) rfl rfl rfl (SubE.old rfl rfl (SubE.dep 2 rfl rfl rfl SubE.nil)) ?_
              refine vV (x := (.str r89.1)) (OpV.move rfl rfl) ?_ (gT hg95)
              exact WO.nil Post1.mk
          · refine OblL.stC ?_ (OblL.st0)
            · refine OblAt.mk _ [(2, .ptr 0 0), (69, .bool (r89.2 != 0))] 71 (.ptr 0 6) rfl rfl rfl (SubE.old rfl rfl (SubE.dep 2 rfl rfl rfl SubE.nil)) ?_
              refine vV (x := (.ptr 0 6)) (OpV.fieldP fa_33_6 rfl rfl) ?_ (gT hg95)
              exact WO.nil Post1.mk
          · refine OblL.stC ?_ (OblL.st0)
            · refine OblAt.mk _ [(69, .bool (r89.2 != 0)), (71, .ptr 0 6)] 72 (.rsl 3 (List.map Category.cells b78.1.Categories)) rfl rfl rfl (SubE.dep 2 rfl rfl rfl (SubE.dep 4 rfl rfl rfl SubE.nil)) ?_
              refine vV (x := (.rsl 3 (List.map Category.cells b78.1.Categories))) (OpV.load rfl Tryz.isAgg27 rfl (Pts.cells rfl rfl)) ?_ (gT hg95)
              exact WO.nil Post1.mk
          · refine OblL.stC ?_ (OblL.st0)
            · refine OblAt.mk _ [(5, .osl 2 0 r4.length 1), (69, .bool (r89.2 != 0))] 73 (.osl 2 0 r4.length 1) rfl rfl rfl (SubE.old rfl rfl (SubE.dep 2 rfl rfl rfl SubE.nil)) ?_
              refine vV (x := (.osl 2 0 r4.length 1)) (OpV.move rfl rfl) ?_ (gT hg95)
              exact WO.nil Post1.mk
          · refine OblL.stC ?_ (OblL.st0)
            · refine OblAt.mk _ [(6, .int .i64 s67.2.2), (69, .bool (r89.2 != 0))] 74 (.int .i64 s67.2.2) rfl rfl rfl (SubE.old rfl rfl (SubE.dep 2 rfl rfl rfl SubE.nil)) ?_
              refine vV (x := (.int .i64 s67.2.2)) (OpV.move rfl rfl) ?_ (gT hg95)
              exact WO.nil Post1.mk
          · refine OblL.stC ?_ (OblL.st0)
            · refine OblAt.mk _ [(69, .bool (r89.2 != 0)), (73, .osl 2 0 r4.length 1), (74, .int .i64 s67.2.2)] 75 (.ptr 2 (Int.toNat s67.2.2 * 1)) rfl rfl rfl (SubE.dep 2 rfl rfl rfl (SubE.dep 6 rfl rfl rfl (SubE.dep 7 rfl rfl rfl SubE.nil))) ?_
              refine vV (x := (.ptr 2 (Int.toNat s67.2.2 * 1))) (OpV.ixW hx96 rfl Tryz.runUnderlying39 Tryz.sizeOf3) ?_ (gT hg95)
              exact WO.nil Post1.mk
          · refine OblL.stC ?_ (OblL.st0)
            · refine OblAt.mk _ [(69, .bool (r89.2 != 0)), (75, .ptr 2 (Int.toNat s67.2.2 * 1))] 76 (.int .i64 x96) rfl rfl rfl (SubE.dep 2 rfl rfl rfl (SubE.dep 8 rfl rfl rfl SubE.nil)) ?_
              refine vV (x := (.int .i64 x96)) (OpV.load rfl Tryz.isAgg3 rfl (Pts.ofRow0 hx96)) ?_ (gT hg95)
              exact WO.nil Post1.mk
          · refine OblL.stC ?_ (OblL.st0)
            · refine OblAt.mk _ [(69, .bool (r89.2 != 0)), (72, .rsl 3 (List.map Category.cells b78.1.Categories)), (76, .int .i64 x96)] 77 (.rp [.str x97.Name, .int .i64 x97.From, .int .i64 x97.To]) rfl rfl rfl (SubE.dep 2 rfl rfl rfl (SubE.dep 5 rfl rfl rfl (SubE.dep 9 rfl rfl rfl SubE.nil))) ?_
              refine vV (x := (.rp [.str x97.Name, .int .i64 x97.From, .int .i64 x97.To])) (OpV.ixM (e := Category.cells) (v := x97) hx97 Tryz.runUnderlying27 Tryz.sizeOf52) ?_ (gT hg95)
              exact WO.nil Post1.mk
          · refine OblL.stC ?_ (OblL.st0)
            · refine OblAt.mk _ [(69, .bool (r89.2 != 0)), (77, .rp [.str x97.Name, .int .i64 x97.From, .int .i64 x97.To])] 78 (.rp [.str x97.Name, .int .i64 x97.From, .int .i64 x97.To]) rfl rfl rfl (SubE.dep 2 rfl rfl rfl (SubE.dep 10 rfl rfl rfl SubE.nil)) ?_
              refine vV (x := (.rp [.str x97.Name, .int .i64 x97.From, .int .i64 x97.To])) (OpV.fieldR fa_52_0 rfl rfl rfl) ?_ (gT hg95)
              exact WO.nil Post1.mk
          · refine OblL.stC ?_ (OblL.st0)
            · refine OblAt.mk _ [(69, .bool (r89.2 != 0)), (78, .rp [.str x97.Name, .int .i64 x97.From, .int .i64 x97.To])] 79 (.str x97.Name) rfl rfl rfl (SubE.dep 2 rfl rfl rfl (SubE.dep 11 rfl rfl rfl SubE.nil)) ?_
              refine vV (x := (.str x97.Name)) (OpV.load rfl Tryz.isAgg9 rfl Pts.rp) ?_ (gT hg95)
              exact WO.nil Post1.mk
        refine vV (x := (.bool (r89.1 != x97.Name))) (OpV.strNe rfl rfl rfl) ?_ (gT hg95)
        refine vV (x := (.bool (r89.1 != x97.Name))) (OpV.pickF hg95) ?_
        refine WO.nil ?_
        obtain rfl := Option.some.inj h94
        refine cutN ?_
        exact Le.ren [0, 1, 2] rfl rfl (by decide) ⟨rfl, rfl, rfl, rfl, rfl, trivial⟩
    refine seqN (TC.le hle ?_)
    refine TC.cond rfl (fun hc98 => ?_) (fun hc98 => ?_)
    · have h69 := ifT hc98 h69
      refine TC.seq ?_
      refine TC.region ?_
      refine vV (x := (.bool false)) (OpV.assign rfl rfl) ?_
      refine WO.nil ?_
      refine seqN ?_
      refine TC.ret ?_
      refine bloR ?_
      refine seqR ?_
      refine loopR h69 ?_
      obtain rfl := hb66 _ (Option.some.inj h69).symm
      refine bloR ?_
      refine cutER ?_
      refine seqR ?_
      obtain rfl := Option.some.inj h
      refine ⟨[(4, .bool false)], [], _, ?_, ResOK.one rfl rfl, rfl, rfl⟩
      exact Le.ren [] rfl rfl (by decide) ⟨rfl, trivial⟩
    have h69 := ifF hc98 h69
    refine TC.skip ?_
    refine bloN ?_
    refine seqN ?_
    refine TC.region ?_
    refine vV (x := (.int .i64 s67.2.2)) (OpV.move rfl rfl) ?_
    refine vV (x := (.int .i64 (IntKind.i64.wrap (s67.2.2 + 1)))) (OpV.add rfl rfl rfl) ?_
    refine vV (x := (.int .i64 (IntKind.i64.wrap (s67.2.2 + 1)))) (OpV.assign rfl rfl) ?_
    refine WO.nil ?_
    refine loopN h69 ?_
    exact Le.ren [0, 1, 2] rfl rfl (by decide) ⟨rfl, rfl, rfl, rfl, trivial⟩
  subst hbe
  refine seqN (TC.le hle ?_)
  refine TC.seq ?_
  refine TC.seq ?_
  refine TC.region ?_
  refine vV (x := (.int .i64 0)) (OpV.assign rfl rfl) ?_
  refine WO.nil ?_
  refine seqN ?_
  obtain ⟨b124, h125, h⟩ := bnd h
  refine TC.cutE (b := b124) (fun sb124 => [(2, .ptr 0 0)]) (fun sb124 => [.cells 33 (Course.cells sb124)]) ?_ (fun sb124 env H hbe hle => ?_)
  ·
    refine TC.block ?_
    refine TC.loop (E := fun s127 => [(2, .ptr 0 0), (3, .ptr 1 0), (5, .osl 2 0 r4.length 1), (9, .int .i64 s127.2.2)]) (Hp := fun s127 => [.cells 33 (Course.cells s127.1), .cells 42 (Starter.cells s127.2.1), .row 3 1 (List.map (encI .i64) r4)]) h125 ?_ ?_
    ·
      exact Le.ren [0, 1, 2] rfl rfl (by decide) ⟨rfl, rfl, rfl, rfl, trivial⟩
    intro s127 d128 h129 hb126
    refine TC.seq ?_
    refine TC.seq ?_
    refine TC.region ?_
    refine vV (x := (.int .i64 s127.2.2)) (OpV.move rfl rfl) ?_
    refine vV (x := (.ptr 0 6)) (OpV.fieldP fa_33_6 rfl rfl) ?_
    refine vV (x := (.rsl 3 (List.map Category.cells s127.1.Categories))) (OpV.load rfl Tryz.isAgg27 rfl (Pts.cells rfl rfl)) ?_
    refine vV (x := (.int .i64 (s127.1.Categories.length : Int))) (OpV.lenM Tryz.runUnderlying27) ?_
    refine vV (x := (.bool (decide (s127.2.2 < (s127.1.Categories.length : Int))))) (OpV.lss rfl rfl rfl) ?_
    refine WO.nil ?_
    refine seqN ?_
    refine TC.condS rfl (fun hc130 => ?_) (fun hc130 => ?_)
    · have h129 := ifF hc130 h129
      refine TC.exit ?_
      refine seqX ?_
      refine loopX h129 ?_
      obtain rfl := hb126 _ (Option.some.inj h129).symm
      refine bloE ?_
      refine cutEN rfl ?_
      exact Le.ren [0] rfl rfl (by decide) ⟨rfl, trivial⟩
    have h129 := ifT hc130 h129
    refine TC.skip ?_
    refine seqN ?_
    refine TC.seq ?_
    refine TC.block ?_
    refine TC.seq ?_
    obtain ⟨b135, h136, h129⟩ := bnd h129
    refine TC.cut ([(2, .ptr 0 0), (3, .ptr 1 0), (5, .osl 2 0 r4.length 1), (9, .int .i64 s127.2.2), (112, .bool b135.2.2)]) ([.cells 33 (Course.cells b135.1), .cells 42 (Starter.cells b135.2.1), .row 3 1 (List.map (encI .i64) r4)]) ?_ (fun env H hle => ?_)
    ·
      obtain ⟨r137, hr137, h136⟩ := bnd h136
      obtain ⟨x138, hx138, h136⟩ := bnd h136
      rcases bTF (decide (x138.From ≤ s127.2.1.Age)) with hg139 | hg139
      · have h136 := ifT hg139 h136
        obtain ⟨x140, hx140, h136⟩ := bnd h136
        refine TC.draw 21 0 [89, 90, 91, 92, 93, 94, 95, 96, 97, 98, 99, 100, 101, 102, 103, 104, 105, 106, 107, 108, 109] [0, 0, 0, 0, 0, 0, 0, 0, 0, 0, 0, 0, 0, 0, 0, 0, 0, 0, 0, 0, 0] [false, false, false, false, false, false, false, false, false, false, false, false, false, false, false, false, false, false, false, false, false] [.osl 2 0 r4.length 1, .int .i64 s127.2.2, .bool r137, .ptr 0 6, .rsl 3 (List.map Category.cells s127.1.Categories), .int .i64 s127.2.2, .rp [.str x138.Name, .int .i64 x138.From, .int .i64 x138.To], .rp [.int .i64 x138.From, .int .i64 x138.To], .int .i64 x138.From, .ptr 1 4, .int .i64 s127.2.1.Age, .bool (decide (x138.From ≤ s127.2.1.Age)), .bool (decide (x138.From ≤ s127.2.1.Age)), .ptr 1 4, .int .i64 s127.2.1.Age, .ptr 0 6, .rsl 3 (List.map Category.cells s127.1.Categories), .int .i64 s127.2.2, .rp [.str x140.Name, .int .i64 x140.From, .int .i64 x140.To], .rp [.int .i64 x140.To], .int .i64 x140.To] [[.cells 33 (Course.cells s127.1), .cells 42 (Starter.cells s127.2.1), .row 3 1 (List.map (encI .i64) r4)]] ([.cells 33 (Course.cells s127.1), .cells 42 (Starter.cells s127.2.1), .row 3 1 (List.map (encI .i64) r4)]) draws rfl rfl rfl rfl rfl rfl rfl rfl ?_ ?_
        · refine OblL.cons ?_ (OblL.cons ?_ (OblL.cons ?_ (OblL.cons ?_ (OblL.cons ?_ (OblL.cons ?_ (OblL.cons ?_ (OblL.cons ?_ (OblL.cons ?_ (OblL.cons ?_ (OblL.cons ?_ (OblL.cons ?_ (OblL.cons ?_ (OblL.cons ?_ (OblL.cons ?_ (OblL.cons ?_ (OblL.cons ?_ (OblL.cons ?_ (OblL.cons ?_ (OblL.cons ?_ (OblL.cons ?_ (OblL.nil)))))))))))))))))))))
          · refine OblL.stC ?_ (OblL.st0)
            · refine OblAt.mk _ [(5, .osl 2 0 r4.length 1)] 89 (.osl 2 0 r4.length 1) rfl rfl rfl (SubE.old rfl rfl SubE.nil) ?_
              refine vV (x := (.osl 2 0 r4.length 1)) (OpV.move rfl rfl) ?_
              exact WO.nil Post1.mk
          · refine OblL.stC ?_ (OblL.st0)
            · refine OblAt.mk _ [(9, .int .i64 s127.2.2)] 90 (.int .i64 s127.2.2) rfl rfl rfl (SubE.old rfl rfl SubE.nil) ?_
              refine vV (x := (.int .i64 s127.2.2)) (OpV.move rfl rfl) ?_
              exact WO.nil Post1.mk
          · refine OblL.stC ?_ (OblL.st0)
            · refine OblAt.mk _ [(89, .osl 2 0 r4.length 1), (90, .int .i64 s127.2.2)] 91 (.bool r137) rfl rfl rfl (SubE.dep 0 rfl rfl rfl (SubE.dep 1 rfl rfl rfl SubE.nil)) ?_
              refine WO.callB (OpC.fn Tryz.call20 rfl rfl rfl) (LookL.cons rfl (.inr ⟨_, _, _, _, _, rfl, rfl, List.length_map .., rfl⟩) (LookL.cons rfl (.inl ⟨rfl, rfl⟩) LookL.nil)) (ok_stopwatchref29_In _ _ _ _ hr137) (by rintro _ _ ⟨rfl, rfl⟩; rfl) ?_
              rintro _ _ ⟨rfl, rfl⟩
              refine WO.atV (x := (.bool r137)) (H := [.cells 33 (Course.cells s127.1), .cells 42 (Starter.cells s127.2.1), .row 3 1 (List.map (encI .i64) r4)]) rfl rfl ?_
              exact WO.nil Post1.mk
          · refine OblL.stC ?_ (OblL.st0)
            · refine OblAt.mk _ [(2, .ptr 0 0)] 92 (.ptr 0 6) rfl rfl rfl (SubE.old rfl rfl SubE.nil) ?_
              refine vV (x := (.ptr 0 6)) (OpV.fieldP fa_33_6 rfl rfl) ?_
              exact WO.nil Post1.mk
          · refine OblL.stC ?_ (OblL.st0)
            · refine OblAt.mk _ [(92, .ptr 0 6)] 93 (.rsl 3 (List.map Category.cells s127.1.Categories)) rfl rfl rfl (SubE.dep 3 rfl rfl rfl SubE.nil) ?_
              refine vV (x := (.rsl 3 (List.map Category.cells s127.1.Categories))) (OpV.load rfl Tryz.isAgg27 rfl (Pts.cells rfl rfl)) ?_
              exact WO.nil Post1.mk
          · refine OblL.stC ?_ (OblL.st0)
            · refine OblAt.mk _ [(9, .int .i64 s127.2.2)] 94 (.int .i64 s127.2.2) rfl rfl rfl (SubE.old rfl rfl SubE.nil) ?_
              refine vV (x := (.int .i64 s127.2.2)) (OpV.move rfl rfl) ?_
              exact WO.nil Post1.mk
          · refine OblL.stC ?_ (OblL.st0)
            · refine OblAt.mk _ [(93, .rsl 3 (List.map Category.cells s127.1.Categories)), (94, .int .i64 s127.2.2)] 95 (.rp [.str x138.Name, .int .i64 x138.From, .int .i64 x138.To]) rfl rfl rfl (SubE.dep 4 rfl rfl rfl (SubE.dep 5 rfl rfl rfl SubE.nil)) ?_
              refine vV (x := (.rp [.str x138.Name, .int .i64 x138.From, .int .i64 x138.To])) (OpV.ixM (e := Category.cells) (v := x138) hx138 Tryz.runUnderlying27 Tryz.sizeOf52) ?_
              exact WO.nil Post1.mk
          · refine OblL.stC ?_ (OblL.st0)
            · refine OblAt.mk _ [(95, .rp [.str x138.Name, .int .i64 x138.From, .int .i64 x138.To])] 96 (.rp [.int .i64 x138.From, .int .i64 x138.To]) rfl rfl rfl (SubE.dep 6 rfl rfl rfl SubE.nil) ?_
              refine vV (x := (.rp [.int .i64 x138.From, .int .i64 x138.To])) (OpV.fieldR fa_52_1 rfl rfl rfl) ?_
              exact WO.nil Post1.mk
          · refine OblL.stC ?_ (OblL.st0)
            · refine OblAt.mk _ [(96, .rp [.int .i64 x138.From, .int .i64 x138.To])] 97 (.int .i64 x138.From) rfl rfl rfl (SubE.dep 7 rfl rfl rfl SubE.nil) ?_
              refine vV (x := (.int .i64 x138.From)) (OpV.load rfl Tryz.isAgg3 rfl Pts.rp) ?_
              exact WO.nil Post1.mk
          · refine OblL.stC ?_ (OblL.st0)
            · refine OblAt.mk _ [(3, .ptr 1 0)] 98 (.ptr 1 4) rfl rfl rfl (SubE.old rfl rfl SubE.nil) ?_
              refine vV (x := (.ptr 1 4)) (OpV.fieldP fa_42_4 rfl rfl) ?_
              exact WO.nil Post1.mk
          · refine OblL.stC ?_ (OblL.st0)
            · refine OblAt.mk _ [(98, .ptr 1 4)] 99 (.int .i64 s127.2.1.Age) rfl rfl rfl (SubE.dep 9 rfl rfl rfl SubE.nil) ?_
              refine vV (x := (.int .i64 s127.2.1.Age)) (OpV.load rfl Tryz.isAgg3 rfl (Pts.cells rfl rfl)) ?_
              exact WO.nil Post1.mk
          · refine OblL.stC ?_ (OblL.st0)
            · refine OblAt.mk _ [(97, .int .i64 x138.From), (99, .int .i64 s127.2.1.Age)] 100 (.bool (decide (x138.From ≤ s127.2.1.Age))) rfl rfl rfl (SubE.dep 8 rfl rfl rfl (SubE.dep 10 rfl rfl rfl SubE.nil)) ?_
              refine vV (x := (.bool (decide (x138.From ≤ s127.2.1.Age)))) (OpV.leq rfl rfl rfl) ?_
              exact WO.nil Post1.mk
          · refine OblL.stC ?_ (OblL.st0)
            · refine OblAt.mk _ [(100, .bool (decide (x138.From ≤ s127.2.1.Age)))] 101 (.bool (decide (x138.From ≤ s127.2.1.Age))) rfl rfl rfl (SubE.dep 11 rfl rfl rfl SubE.nil) ?_
              refine vV (x := (.bool (decide (x138.From ≤ s127.2.1.Age)))) (OpV.move rfl rfl) ?_
              exact WO.nil Post1.mk
          · refine OblL.stC ?_ (OblL.st0)
            · refine OblAt.mk _ [(3, .ptr 1 0), (101, .bool (decide (x138.From ≤ s127.2.1.Age)))] 102 (.ptr 1 4) rfl rfl rfl (SubE.old rfl rfl (SubE.dep 12 rfl rfl rfl SubE.nil)) ?_
              refine vV (x := (.ptr 1 4)) (OpV.fieldP fa_42_4 rfl rfl) ?_ (gT hg139)
              exact WO.nil Post1.mk
          · refine OblL.stC ?_ (OblL.st0)
            · refine OblAt.mk _ [(101, .bool (decide (x138.From ≤ s127.2.1.Age))), (102, .ptr 1 4)] 103 (.int .i64 s127.2.1.Age) rfl rfl rfl (SubE.dep 12 rfl rfl rfl (SubE.dep 13 rfl rfl rfl SubE.nil)) ?_
              refine vV (x := (.int .i64 s127.2.1.Age)) (OpV.load rfl Tryz.isAgg3 rfl (Pts.cells rfl rfl)) ?_ (gT hg139)
              exact WO.nil Post1.mk
          · refine OblL.stC ?_ (OblL.st0)
            · refine OblAt.mk _ [(2, .ptr 0 0), (101, .bool (decide (x138.From ≤ s127.2.1.Age)))] 104 (.ptr 0 6) rfl rfl rfl (SubE.old rfl rfl (SubE.dep 12 rfl rfl rfl SubE.nil)) ?_
              refine vV (x := (.ptr 0 6)) (OpV.fieldP fa_33_6 rfl rfl) ?_ (gT hg139)
              exact WO.nil Post1.mk
          · refine OblL.stC ?_ (OblL.st0)
            · refine OblAt.mk _ [(101, .bool (decide (x138.From ≤ s127.2.1.Age))), (104, .ptr 0 6)] 105 (.rsl 3 (List.map Category.cells s127.1.Categories)) rfl rfl rfl (SubE.dep 12 rfl rfl rfl (SubE.dep 15 rfl rfl rfl SubE.nil)) ?_
              refine vV (x := (.rsl 3 (List.map Category.cells s127.1.Categories))) (OpV.load rfl Tryz.isAgg27 rfl (Pts.cells rfl rfl)) ?_ (gT hg139)
              exact WO.nil Post1.mk
          · refine OblL.stC ?_ (OblL.st0)
            · refine OblAt.mk _ [(9, .int .i64 s127.2.2), (101, .bool (decide (x138.From ≤ s127.2.1.Age)))] 106 (.int .i64 s127.2.2) rfl rfl rfl (SubE.old rfl rfl (SubE.dep 12 rfl rfl rfl SubE.nil)) ?_
              refine vV (x := (.int .i64 s127.2.2)) (OpV.move rfl rfl) ?_ (gT hg139)
              exact WO.nil Post1.mk
          · refine OblL.stC ?_ (OblL.st0)
            · refine OblAt.mk _ [(101, .bool (decide (x138.From ≤ s127.2.1.Age))), (105, .rsl 3 (List.map Category.cells s127.1.Categories)), (106, .int .i64 s127.2.2)] 107 (.rp [.str x140.Name, .int .i64 x140.From, .int .i64 x140.To]) rfl rfl rfl (SubE.dep 12 rfl rfl rfl (SubE.dep 16 rfl rfl rfl (SubE.dep 17 rfl rfl rfl SubE.nil))) ?_
              refine vV (x := (.rp [.str x140.Name, .int .i64 x140.From, .int .i64 x140.To])) (OpV.ixM (e := Category.cells) (v := x140) hx140 Tryz.runUnderlying27 Tryz.sizeOf52) ?_ (gT hg139)
              exact WO.nil Post1.mk
          · refine OblL.stC ?_ (OblL.st0)
            · refine OblAt.mk _ [(101, .bool (decide (x138.From ≤ s127.2.1.Age))), (107, .rp [.str x140.Name, .int .i64 x140.From, .int .i64 x140.To])] 108 (.rp [.int .i64 x140.To]) rfl rfl rfl (SubE.dep 12 rfl rfl rfl (SubE.dep 18 rfl rfl rfl SubE.nil)) ?_
              refine vV (x := (.rp [.int .i64 x140.To])) (OpV.fieldR fa_52_2 rfl rfl rfl) ?_ (gT hg139)
              exact WO.nil Post1.mk
          · refine OblL.stC ?_ (OblL.st0)
            · refine OblAt.mk _ [(101, .bool (decide (x138.From ≤ s127.2.1.Age))), (108, .rp [.int .i64 x140.To])] 109 (.int .i64 x140.To) rfl rfl rfl (SubE.dep 12 rfl rfl rfl (SubE.dep 19 rfl rfl rfl SubE.nil)) ?_
              refine vV (x := (.int .i64 x140.To)) (OpV.load rfl Tryz.isAgg3 rfl Pts.rp) ?_ (gT hg139)
              exact WO.nil Post1.mk
        refine vV (x := (.bool (decide (s127.2.1.Age ≤ x140.To)))) (OpV.leq rfl rfl rfl) ?_ (gT hg139)
        refine vV (x := (.bool (decide (s127.2.1.Age ≤ x140.To)))) (OpV.pickT hg139) ?_
        refine vV (x := (.bool (r137 != (decide (s127.2.1.Age ≤ x140.To))))) (OpV.boolNe Tryz.runUnderlying4) ?_
        refine WO.nil ?_
        obtain rfl := Option.some.inj h136
        refine cutN ?_
        exact Le.ren [0, 1, 2] rfl rfl (by decide) ⟨rfl, rfl, rfl, rfl, rfl, trivial⟩
      · have h136 := ifF hg139 h136
        refine TC.draw 21 0 [89, 90, 91, 92, 93, 94, 95, 96, 97, 98, 99, 100, 101, 102, 103, 104, 105, 106, 107, 108, 109] [0, 0, 0, 0, 0, 0, 0, 0, 0, 0, 0, 0, 0, 0, 0, 0, 0, 0, 0, 0, 0] [false, false, false, false, false, false, false, false, false, false, false, false, false, false, false, false, false, false, false, false, false] [.osl 2 0 r4.length 1, .int .i64 s127.2.2, .bool r137, .ptr 0 6, .rsl 3 (List.map Category.cells s127.1.Categories), .int .i64 s127.2.2, .rp [.str x138.Name, .int .i64 x138.From, .int .i64 x138.To], .rp [.int .i64 x138.From, .int .i64 x138.To], .int .i64 x138.From, .ptr 1 4, .int .i64 s127.2.1.Age, .bool (decide (x138.From ≤ s127.2.1.Age)), .bool (decide (x138.From ≤ s127.2.1.Age)), .tup [], .tup [], .tup [], .tup [], .tup [], .tup [], .tup [], .tup []] [[.cells 33 (Course.cells s127.1), .cells 42 (Starter.cells s127.2.1), .row 3 1 (List.map (encI .i64) r4)]] ([.cells 33 (Course.cells s127.1), .cells 42 (Starter.cells s127.2.1), .row 3 1 (List.map (encI .i64) r4)]) draws rfl rfl rfl rfl rfl rfl rfl rfl ?_ ?_
        · refine OblL.cons ?_ (OblL.cons ?_ (OblL.cons ?_ (OblL.cons ?_ (OblL.cons ?_ (OblL.cons ?_ (OblL.cons ?_ (OblL.cons ?_ (OblL.cons ?_ (OblL.cons ?_ (OblL.cons ?_ (OblL.cons ?_ (OblL.cons ?_ (OblL.cons ?_ (OblL.cons ?_ (OblL.cons ?_ (OblL.cons ?_ (OblL.cons ?_ (OblL.cons ?_ (OblL.cons ?_ (OblL.cons ?_ (OblL.nil)))))))))))))))))))))
          · refine OblL.stC ?_ (OblL.st0)
            · refine OblAt.mk _ [(5, .osl 2 0 r4.length 1)] 89 (.osl 2 0 r4.length 1) rfl rfl rfl (SubE.old rfl rfl SubE.nil) ?_
              refine vV (x := (.osl 2 0 r4.length 1)) (OpV.move rfl rfl) ?_
              exact WO.nil Post1.mk
          · refine OblL.stC ?_ (OblL.st0)
            · refine OblAt.mk _ [(9, .int .i64 s127.2.2)] 90 (.int .i64 s127.2.2) rfl rfl rfl (SubE.old rfl rfl SubE.nil) ?_
              refine vV (x := (.int .i64 s127.2.2)) (OpV.move rfl rfl) ?_
              exact WO.nil Post1.mk
          · refine OblL.stC ?_ (OblL.st0)
            · refine OblAt.mk _ [(89, .osl 2 0 r4.length 1), (90, .int .i64 s127.2.2)] 91 (.bool r137) rfl rfl rfl (SubE.dep 0 rfl rfl rfl (SubE.dep 1 rfl rfl rfl SubE.nil)) ?_
              refine WO.callB (OpC.fn Tryz.call20 rfl rfl rfl) (LookL.cons rfl (.inr ⟨_, _, _, _, _, rfl, rfl, List.length_map .., rfl⟩) (LookL.cons rfl (.inl ⟨rfl, rfl⟩) LookL.nil)) (ok_stopwatchref29_In _ _ _ _ hr137) (by rintro _ _ ⟨rfl, rfl⟩; rfl) ?_
              rintro _ _ ⟨rfl, rfl⟩
              refine WO.atV (x := (.bool r137)) (H := [.cells 33 (Course.cells s127.1), .cells 42 (Starter.cells s127.2.1), .row 3 1 (List.map (encI .i64) r4)]) rfl rfl ?_
              exact WO.nil Post1.mk
          · refine OblL.stC ?_ (OblL.st0)
            · refine OblAt.mk _ [(2, .ptr 0 0)] 92 (.ptr 0 6) rfl rfl rfl (SubE.old rfl rfl SubE.nil) ?_
              refine vV (x := (.ptr 0 6)) (OpV.fieldP fa_33_6 rfl rfl) ?_
              exact WO.nil Post1.mk
          · refine OblL.stC ?_ (OblL.st0)
            · refine OblAt.mk _ [(92, .ptr 0 6)] 93 (.rsl 3 (List.map Category.cells s127.1.Categories)) rfl rfl rfl (SubE.dep 3 rfl rfl rfl SubE.nil) ?_
              refine vV (x := (.rsl 3 (List.map Category.cells s127.1.Categories))) (OpV.load rfl Tryz.isAgg27 rfl (Pts.cells rfl rfl)) ?_
              exact WO.nil Post1.mk
          · refine OblL.stC ?_ (OblL.st0)
            · refine OblAt.mk _ [(9, .int .i64 s127.2.2)] 94 (.int .i64 s127.2.2) rfl rfl rfl (SubE.old rfl rfl SubE.nil) ?_
              refine vV (x := (.int .i64 s127.2.2)) (OpV.move rfl rfl) ?_
              exact WO.nil Post1.mk
          · refine OblL.stC ?_ (OblL.st0)
            · refine OblAt.mk _ [(93, .rsl 3 (List.map Category.cells s127.1.Categories)), (94, .int .i64 s127.2.2)] 95 (.rp [.str x138.Name, .int .i64 x138.From, .int .i64 x138.To]) rfl rfl rfl (SubE.dep 4 rfl rfl rfl (SubE.dep 5 rfl rfl rfl SubE.nil)) ?_
              refine vV (x := (.rp [.str x138.Name, .int .i64 x138.From, .int .i64 x138.To])) (OpV.ixM (e := Category.cells) (v := x138) hx138 Tryz.runUnderlying27 Tryz.sizeOf52) ?_
              exact WO.nil Post1.mk
          · refine OblL.stC ?_ (OblL.st0)
            · refine OblAt.mk _ [(95, .rp [.str x138.Name, .int .i64 x138.From, .int .i64 x138.To])] 96 (.rp [.int .i64 x138.From, .int .i64 x138.To]) rfl rfl rfl (SubE.dep 6 rfl rfl rfl SubE.nil) ?_
              refine vV (x := (.rp [.int .i64 x138.From, .int .i64 x138.To])) (OpV.fieldR fa_52_1 rfl rfl rfl) ?_
              exact WO.nil Post1.mk
          · refine OblL.stC ?_ (OblL.st0)
            · refine OblAt.mk _ [(96, .rp [.int .i64 x138.From, .int .i64 x138.To])] 97 (.int .i64 x138.From) rfl rfl rfl (SubE.dep 7 rfl rfl rfl SubE.nil) ?_
              refine vV (x := (.int .i64 x138.From)) (OpV.load rfl Tryz.isAgg3 rfl Pts.rp) ?_
              exact WO.nil Post1.mk
          · refine OblL.stC ?_ (OblL.st0)
            · refine OblAt.mk _ [(3, .ptr 1 0)] 98 (.ptr 1 4) rfl rfl rfl (SubE.old rfl rfl SubE.nil) ?_
              refine vV (x := (.ptr 1 4)) (OpV.fieldP fa_42_4 rfl rfl) ?_
              exact WO.nil Post1.mk
          · refine OblL.stC ?_ (OblL.st0)
            · refine OblAt.mk _ [(98, .ptr 1 4)] 99 (.int .i64 s127.2.1.Age) rfl rfl rfl (SubE.dep 9 rfl rfl rfl SubE.nil) ?_
              refine vV (x := (.int .i64 s127.2.1.Age)) (OpV.load rfl Tryz.isAgg3 rfl (Pts.cells rfl rfl)) ?_
              exact WO.nil Post1.mk
          · refine OblL.stC ?_ (OblL.st0)
            · refine OblAt.mk _ [(97, .int .i64 x138.From), (99, .int .i64 s127.2.1.Age)] 100 (.bool (decide (x138.From ≤ s127.2.1.Age))) rfl rfl rfl (SubE.dep 8 rfl rfl rfl (SubE.dep 10 rfl rfl rfl SubE.nil)) ?_
              refine vV (x := (.bool (decide (x138.From ≤ s127.2.1.Age)))) (OpV.leq rfl rfl rfl) ?_
              exact WO.nil Post1.mk
          · refine OblL.stC ?_ (OblL.st0)
            · refine OblAt.mk _ [(100, .bool (decide (x138.From ≤ s127.2.1.Age)))] 101 (.bool (decide (x138.From ≤ s127.2.1.Age))) rfl rfl rfl (SubE.dep 11 rfl rfl rfl SubE.nil) ?_
              refine vV (x := (.bool (decide (x138.From ≤ s127.2.1.Age)))) (OpV.move rfl rfl) ?_
              exact WO.nil Post1.mk
          · refine OblL.stC ?_ (OblL.st0)
            · refine OblAt.mk _ [(3, .ptr 1 0), (101, .bool (decide (x138.From ≤ s127.2.1.Age)))] 102 (.tup []) rfl rfl rfl (SubE.old rfl rfl (SubE.dep 12 rfl rfl rfl SubE.nil)) ?_
              refine vS (gF hg139) ?_
              exact WO.nil Post1.mk
          · refine OblL.stC ?_ (OblL.st0)
            · refine OblAt.mk _ [(101, .bool (decide (x138.From ≤ s127.2.1.Age))), (102, .tup [])] 103 (.tup []) rfl rfl rfl (SubE.dep 12 rfl rfl rfl (SubE.dep 13 rfl rfl rfl SubE.nil)) ?_
              refine vS (gF hg139) ?_
              exact WO.nil Post1.mk
          · refine OblL.stC ?_ (OblL.st0)
            · refine OblAt.mk _ [(2, .ptr 0 0), (101, .bool (decide (x138.From ≤ s127.2.1.Age)))] 104 (.tup []) rfl rfl rfl (SubE.old rfl rfl (SubE.dep 12 rfl rfl rfl SubE.nil)) ?_
              refine vS (gF hg139) ?_
              exact WO.nil Post1.mk
          · refine OblL.stC ?_ (OblL.st0)
            · refine OblAt.mk _ [(101, .bool (decide (x138.From ≤ s127.2.1.Age))), (104, .tup [])] 105 (.tup []) rfl rfl rfl (SubE.dep 12 rfl rfl rfl (SubE.dep 15 rfl rfl rfl SubE.nil)) ?_
              refine vS (gF hg139) ?_
              exact WO.nil Post1.mk
          · refine OblL.stC ?_ (OblL.st0)
            · refine OblAt.mk _ [(9, .int .i64 s127.2.2), (101, .bool (decide (x138.From ≤ s127.2.1.Age)))] 106 (.tup []) rfl rfl rfl (SubE.old rfl rfl (SubE.dep 12 rfl rfl rfl SubE.nil)) ?_
              refine vS (gF hg139) ?_
              exact WO.nil Post1.mk
          · refine OblL.stC ?_ (OblL.st0)
            · refine OblAt.mk _ [(101, .bool (decide (x138.From ≤ s127.2.1.Age))), (105, .tup []), (106, .tup [])] 107 (.tup []) rfl rfl rfl (SubE.dep 12 rfl rfl rfl (SubE.dep 16 rfl rfl rfl (SubE.dep 17 rfl rfl rfl SubE.nil))) ?_
              refine vS (gF hg139) ?_
              exact WO.nil Post1.mk
          · refine OblL.stC ?_ (OblL.st0)
            · refine OblAt.mk _ [(101, .bool (decide (x138.From ≤ s127.2.1.Age))), (107, .tup [])] 108 (.tup []) rfl rfl rfl (SubE.dep 12 rfl rfl rfl (SubE.dep 18 rfl rfl rfl SubE.nil)) ?_
              refine vS (gF hg139) ?_
              exact WO.nil Post1.mk
          · refine OblL.stC ?_ (OblL.st0)
            · refine OblAt.mk _ [(101, .bool (decide (x138.From ≤ s127.2.1.Age))), (108, .tup [])] 109 (.tup []) rfl rfl rfl (SubE.dep 12 rfl rfl rfl (SubE.dep 19 rfl rfl rfl SubE.nil)) ?_
              refine vS (gF hg139) ?_
              exact WO.nil Post1.mk
        refine vS (gF hg139) ?_
        refine vV (x := (.bool false)) (OpV.pickF hg139) ?_
        refine vV (x := (.bool (r137 != false))) (OpV.boolNe Tryz.runUnderlying4) ?_
        refine WO.nil ?_
        obtain rfl := Option.some.inj h136
        refine cutN ?_
        exact Le.ren [0, 1, 2] rfl rfl (by decide) ⟨rfl, rfl, rfl, rfl, rfl, trivial⟩
    refine seqN (TC.le hle ?_)
    refine TC.cond rfl (fun hc141 => ?_) (fun hc141 => ?_)
    · have h129 := ifT hc141 h129
      refine TC.seq ?_
      refine TC.region ?_
      refine vV (x := (.bool false)) (OpV.assign rfl rfl) ?_
      refine WO.nil ?_
      refine seqN ?_
      refine TC.ret ?_
      refine bloR ?_
      refine seqR ?_
      refine loopR h129 ?_
      obtain rfl := hb126 _ (Option.some.inj h129).symm
      refine bloR ?_
      refine cutER ?_
      refine seqR ?_
      obtain rfl := Option.some.inj h
      refine ⟨[(4, .bool false)], [], _, ?_, ResOK.one rfl rfl, rfl, rfl⟩
      exact Le.ren [] rfl rfl (by decide) ⟨rfl, trivial⟩
    have h129 := ifF hc141 h129
    refine TC.skip ?_
    refine bloN ?_
    refine seqN ?_
    refine TC.region ?_
    refine vV (x := (.int .i64 s127.2.2)) (OpV.move rfl rfl) ?_
    refine vV (x := (.int .i64 (IntKind.i64.wrap (s127.2.2 + 1)))) (OpV.add rfl rfl rfl) ?_
    refine vV (x := (.int .i64 (IntKind.i64.wrap (s127.2.2 + 1)))) (OpV.assign rfl rfl) ?_
    refine WO.nil ?_
    refine loopN h129 ?_
    exact Le.ren [0, 1, 2] rfl rfl (by decide) ⟨rfl, rfl, rfl, rfl, trivial⟩
  subst hbe
  refine seqN (TC.le hle ?_)
  refine TC.seq ?_
  refine TC.region ?_
  refine vV (x := (.agg (Course.cells sb124))) (OpV.loadA rfl Tryz.isAgg33 Tryz.sizeOf33 rfl (Pts.cells rfl rfl) rfl rfl) ?_
  refine vV (x := (.ptr 0 6)) (OpV.fieldP fa_33_6 rfl rfl) ?_
  refine vV (x := (.rsl 3 (List.map Category.cells sb124.Categories))) (OpV.load rfl Tryz.isAgg27 rfl (Pts.cells rfl rfl)) ?_
  refine vV (x := (.int .i64 (sb124.Categories.length : Int))) (OpV.lenM Tryz.runUnderlying27) ?_
  obtain ⟨r142, hr142, h⟩ := bnd h
  refine WO.callD [] (OpC.fn Tryz.call14 rfl rfl rfl) (ok_categories_Name _ _ _ _ hr142) ?_
  rintro _ _ ⟨rfl, rfl⟩
  refine WO.atV (x := (.tup [.str r142.1, .int .i64 r142.2])) (H := [.cells 33 (Course.cells sb124)]) rfl rfl ?_
  refine vV (x := (.tup [.str r142.1, .int .i64 r142.2])) (OpV.move rfl rfl) ?_
  refine vV (x := (.str r142.1)) (OpV.extract rfl rfl rfl) ?_
  refine vV (x := (.int .i64 r142.2)) (OpV.extract rfl rfl rfl) ?_
  refine vV (x := (.str r142.1)) (OpV.assign rfl rfl) ?_
  refine vV (x := (.int .i64 r142.2)) (OpV.assign rfl rfl) ?_
  refine WO.nil ?_
  refine seqN ?_
  refine TC.seq ?_
  refine TC.region ?_
  refine vV (x := (.int .i64 r142.2)) (OpV.move rfl rfl) ?_
  refine vV (x := (.bool (r142.2 == 290))) (OpV.eql rfl rfl rfl) ?_
  refine vV (x := (.bool (r142.2 == 290))) (OpV.assign rfl rfl) ?_
  refine WO.nil ?_
  refine seqN ?_
  refine TC.ret ?_
  obtain rfl := Option.some.inj h
  refine ⟨[(4, .bool (r142.2 == 290))], [], _, ?_, ResOK.one rfl rfl, rfl, rfl⟩
  exact Le.ren [] rfl rfl (by decide) ⟨rfl, trivial⟩

end Go.Sw
