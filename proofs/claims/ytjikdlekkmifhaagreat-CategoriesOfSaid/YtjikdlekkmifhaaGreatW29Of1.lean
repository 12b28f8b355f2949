/- What the functions compute that CategoriesOf reaches, and that their calls refine it (part 1 of 4). -/
import Derived.Test.YtjikdlekkmifhaaGreatW29OfB
set_option linter.unusedVariables false
set_option linter.unusedSimpArgs false
set_option maxRecDepth 100000
namespace Go.Sw
open Go.Proofs

/- stopwatch/stopwatchlaw29.ages -/
def F_stopwatchlaw29_ages (n : Nat) : Option (List Distance) :=
  (mk 2 ({ Name := [], Route := [], Timing := 0, Cutoffs := [], Extra := 0 : Distance })).bind fun l1 => some l1
theorem ok_stopwatchlaw29_ages (n : Nat) (r : List Distance) (h : F_stopwatchlaw29_ages n = some r) :
    C Tryz.prog 22 [] [] (fun a H => a = .agg [.str [], .rsl 2 (List.map Mat.cells []), .rsl 4 (List.map Leg.cells []), .osl 0 0 r.length 5, .rsl 2 (List.map Wave.cells []), .rsl 4 (List.map Offence.cells []), .osl 1 0 ([{ Name := [106, 117, 110, 105, 111, 114], From := 16, To := 19 : Category }, { Name := [115, 101, 110, 105, 111, 114], From := 20, To := 39 : Category }].length) 3, .rsl 4 (List.map Prize.cells []), .rsl 8 (List.map Step.enc []), .int .i64 0, .int .i64 0, .int .i64 0, .int .i64 0, .int .i64 0, .int .i64 0, .int .i64 0] ∧ H = [.row 62 5 (List.map Distance.cells r), .row 52 3 (List.map Category.cells [{ Name := [106, 117, 110, 105, 111, 114], From := 16, To := 19 : Category }, { Name := [115, 101, 110, 105, 111, 114], From := 20, To := 39 : Category }]), .cells 33 [.str [], .rsl 2 (List.map Mat.cells []), .rsl 4 (List.map Leg.cells []), .osl 0 0 r.length 5, .rsl 2 (List.map Wave.cells []), .rsl 4 (List.map Offence.cells []), .osl 1 0 ([{ Name := [106, 117, 110, 105, 111, 114], From := 16, To := 19 : Category }, { Name := [115, 101, 110, 105, 111, 114], From := 20, To := 39 : Category }].length) 3, .rsl 4 (List.map Prize.cells []), .rsl 8 (List.map Step.enc []), .int .i64 0, .int .i64 0, .int .i64 0, .int .i64 0, .int .i64 0, .int .i64 0, .int .i64 0]]) := by
  refine C.of_body Tryz.func22 rfl rfl rfl ?_
  refine TC.seq ?_
  refine TC.region ?_
  refine vH (OpH.allocZ (v := (.agg [.str [], .rsl 2 (List.map Mat.cells []), .rsl 4 (List.map Leg.cells []), .rsl 5 (List.map Distance.cells []), .rsl 2 (List.map Wave.cells []), .rsl 4 (List.map Offence.cells []), .rsl 3 (List.map Category.cells []), .rsl 4 (List.map Prize.cells []), .rsl 8 (List.map Step.enc []), .int .i64 0, .int .i64 0, .int .i64 0, .int .i64 0, .int .i64 0, .int .i64 0, .int .i64 0])) Tryz.zeroValue33 (ZR.agg (ZL.cons ZR.str (ZL.cons ZR.rsl (ZL.cons ZR.rsl (ZL.cons ZR.rsl (ZL.cons ZR.rsl (ZL.cons ZR.rsl (ZL.cons ZR.rsl (ZL.cons ZR.rsl (ZL.cons ZR.rsl (ZL.cons ZR.int (ZL.cons ZR.int (ZL.cons ZR.int (ZL.cons ZR.int (ZL.cons ZR.int (ZL.cons ZR.int (ZL.cons ZR.int ZL.nil)))))))))))))))))) ?_
  refine WO.atV (x := (.ptr 0 0)) (H := [.cells 33 [.str [], .rsl 2 (List.map Mat.cells []), .rsl 4 (List.map Leg.cells []), .rsl 5 (List.map Distance.cells []), .rsl 2 (List.map Wave.cells []), .rsl 4 (List.map Offence.cells []), .rsl 3 (List.map Category.cells []), .rsl 4 (List.map Prize.cells []), .rsl 8 (List.map Step.enc []), .int .i64 0, .int .i64 0, .int .i64 0, .int .i64 0, .int .i64 0, .int .i64 0, .int .i64 0]]) rfl rfl ?_
  refine WO.nil ?_
  refine seqN ?_
  refine TC.seq ?_
  refine TC.region ?_
  obtain ⟨l1, hl1, h⟩ := bnd h
  refine vH (OpH.mkS (e := Distance.cells) (zv := ({ Name := [], Route := [], Timing := 0, Cutoffs := [], Extra := 0 : Distance })) (a := (.agg [.str [], .rsl 3 (List.map Part.enc []), .int .i64 0, .rsl 3 (List.map Cutoff.cells []), .int .i64 0])) hl1 el_24 Tryz.zeroValue62 (ZR.agg (ZL.cons ZR.str (ZL.cons ZR.rsl (ZL.cons ZR.int (ZL.cons ZR.rsl (ZL.cons ZR.int ZL.nil)))))) rfl rfl rfl rfl) ?_
  refine WO.atV (x := (.osl 1 0 l1.length 5)) (H := [.cells 33 [.str [], .rsl 2 (List.map Mat.cells []), .rsl 4 (List.map Leg.cells []), .rsl 5 (List.map Distance.cells []), .rsl 2 (List.map Wave.cells []), .rsl 4 (List.map Offence.cells []), .rsl 3 (List.map Category.cells []), .rsl 4 (List.map Prize.cells []), .rsl 8 (List.map Step.enc []), .int .i64 0, .int .i64 0, .int .i64 0, .int .i64 0, .int .i64 0, .int .i64 0, .int .i64 0], .row 62 5 (List.map Distance.cells l1)]) rfl rfl ?_
  refine vV (x := (.agg [.str [106, 117, 110, 105, 111, 114], .int .i64 16, .int .i64 19])) (OpV.build (zs := [.str [], .int .i64 0, .int .i64 0]) Tryz.zeroValue52 (ZR.agg (ZL.cons ZR.str (ZL.cons ZR.int (ZL.cons ZR.int ZL.nil)))) pl_52) ?_
  refine vV (x := (.agg [.str [115, 101, 110, 105, 111, 114], .int .i64 20, .int .i64 39])) (OpV.build (zs := [.str [], .int .i64 0, .int .i64 0]) Tryz.zeroValue52 (ZR.agg (ZL.cons ZR.str (ZL.cons ZR.int (ZL.cons ZR.int ZL.nil)))) pl_52) ?_
  refine vH (OpH.lit (xs := [.tmp 2, .tmp 3]) (es := List.map Category.cells [{ Name := [106, 117, 110, 105, 111, 114], From := 16, To := 19 : Category }, { Name := [115, 101, 110, 105, 111, 114], From := 20, To := 39 : Category }]) el_27 rfl rfl rfl rfl rfl ⟨rfl, rfl, trivial⟩ rfl rfl) ?_
  refine WO.atV (x := (.osl 2 0 ([{ Name := [106, 117, 110, 105, 111, 114], From := 16, To := 19 : Category }, { Name := [115, 101, 110, 105, 111, 114], From := 20, To := 39 : Category }].length) 3)) (H := [.cells 33 [.str [], .rsl 2 (List.map Mat.cells []), .rsl 4 (List.map Leg.cells []), .rsl 5 (List.map Distance.cells []), .rsl 2 (List.map Wave.cells []), .rsl 4 (List.map Offence.cells []), .rsl 3 (List.map Category.cells []), .rsl 4 (List.map Prize.cells []), .rsl 8 (List.map Step.enc []), .int .i64 0, .int .i64 0, .int .i64 0, .int .i64 0, .int .i64 0, .int .i64 0, .int .i64 0], .row 62 5 (List.map Distance.cells l1), .row 52 3 (List.map Category.cells [{ Name := [106, 117, 110, 105, 111, 114], From := 16, To := 19 : Category }, { Name := [115, 101, 110, 105, 111, 114], From := 20, To := 39 : Category }])]) rfl rfl ?_
  refine vV (x := (.agg [.str [], .rsl 2 (List.map Mat.cells []), .rsl 4 (List.map Leg.cells []), .osl 1 0 l1.length 5, .rsl 2 (List.map Wave.cells []), .rsl 4 (List.map Offence.cells []), .osl 2 0 ([{ Name := [106, 117, 110, 105, 111, 114], From := 16, To := 19 : Category }, { Name := [115, 101, 110, 105, 111, 114], From := 20, To := 39 : Category }].length) 3, .rsl 4 (List.map Prize.cells []), .rsl 8 (List.map Step.enc []), .int .i64 0, .int .i64 0, .int .i64 0, .int .i64 0, .int .i64 0, .int .i64 0, .int .i64 0])) (OpV.build (zs := [.str [], .rsl 2 (List.map Mat.cells []), .rsl 4 (List.map Leg.cells []), .rsl 5 (List.map Distance.cells []), .rsl 2 (List.map Wave.cells []), .rsl 4 (List.map Offence.cells []), .rsl 3 (List.map Category.cells []), .rsl 4 (List.map Prize.cells []), .rsl 8 (List.map Step.enc []), .int .i64 0, .int .i64 0, .int .i64 0, .int .i64 0, .int .i64 0, .int .i64 0, .int .i64 0]) Tryz.zeroValue33 (ZR.agg (ZL.cons ZR.str (ZL.cons ZR.rsl (ZL.cons ZR.rsl (ZL.cons ZR.rsl (ZL.cons ZR.rsl (ZL.cons ZR.rsl (ZL.cons ZR.rsl (ZL.cons ZR.rsl (ZL.cons ZR.rsl (ZL.cons ZR.int (ZL.cons ZR.int (ZL.cons ZR.int (ZL.cons ZR.int (ZL.cons ZR.int (ZL.cons ZR.int (ZL.cons ZR.int ZL.nil))))))))))))))))) pl_33) ?_
  refine vU (OpU.store rfl rfl rfl Tryz.sizeOf33 rfl rfl rfl rfl rfl rfl rfl) ?_
  refine WO.atH (H := [.cells 33 [.str [], .rsl 2 (List.map Mat.cells []), .rsl 4 (List.map Leg.cells []), .osl 1 0 l1.length 5, .rsl 2 (List.map Wave.cells []), .rsl 4 (List.map Offence.cells []), .osl 2 0 ([{ Name := [106, 117, 110, 105, 111, 114], From := 16, To := 19 : Category }, { Name := [115, 101, 110, 105, 111, 114], From := 20, To := 39 : Category }].length) 3, .rsl 4 (List.map Prize.cells []), .rsl 8 (List.map Step.enc []), .int .i64 0, .int .i64 0, .int .i64 0, .int .i64 0, .int .i64 0, .int .i64 0, .int .i64 0], .row 62 5 (List.map Distance.cells l1), .row 52 3 (List.map Category.cells [{ Name := [106, 117, 110, 105, 111, 114], From := 16, To := 19 : Category }, { Name := [115, 101, 110, 105, 111, 114], From := 20, To := 39 : Category }])]) rfl ?_
  refine WO.nil ?_
  refine seqN ?_
  refine TC.ret ?_
  obtain rfl := Option.some.inj h
  refine ⟨[(0, .ptr 2 0)], [.row 62 5 (List.map Distance.cells l1), .row 52 3 (List.map Category.cells [{ Name := [106, 117, 110, 105, 111, 114], From := 16, To := 19 : Category }, { Name := [115, 101, 110, 105, 111, 114], From := 20, To := 39 : Category }]), .cells 33 [.str [], .rsl 2 (List.map Mat.cells []), .rsl 4 (List.map Leg.cells []), .osl 0 0 l1.length 5, .rsl 2 (List.map Wave.cells []), .rsl 4 (List.map Offence.cells []), .osl 1 0 ([{ Name := [106, 117, 110, 105, 111, 114], From := 16, To := 19 : Category }, { Name := [115, 101, 110, 105, 111, 114], From := 20, To := 39 : Category }].length) 3, .rsl 4 (List.map Prize.cells []), .rsl 8 (List.map Step.enc []), .int .i64 0, .int .i64 0, .int .i64 0, .int .i64 0, .int .i64 0, .int .i64 0, .int .i64 0]], _, ?_, ResOK.single rfl (ResAt.cellB Tryz.isAgg33 Tryz.sizeOf33 rfl rfl rfl), rfl, rfl⟩
  exact Le.ren [1, 2, 0] rfl rfl (by decide) ⟨rfl, trivial⟩

/- stopwatch/categories.Name -/
def F_categories_Name (n : Nat) (a1 : Course) (a2 : Int) : Option ((List UInt8) × Int) :=
  (bif (a2 == (-1)) then some ([], 0) else ((bif decide (a2 < 0) then some (a1, true) else some (a1, decide ((a1.Categories.length : Int) ≤ a2))) : Option (Course × Bool)).bind fun b3 => (bif b3.2 then some ([], 290) else (idx b3.1.Categories a2).bind fun x7 => some (x7.Name, 0)))
theorem ok_categories_Name (n : Nat) (a1 : Course) (a2 : Int) (r : (List UInt8) × Int) (h : F_categories_Name n a1 a2 = some r) :
    C Tryz.prog 14 [.agg (Course.cells a1), .int .i64 a2] [] (fun a H => a = .tup [.str r.1, .int .i64 r.2] ∧ H = []) := by
  refine C.of_body Tryz.func14 rfl rfl rfl ?_
  refine TC.seq ?_
  refine TC.region ?_
  refine vH (OpH.box rfl rfl rfl rfl rfl) ?_
  refine WO.atV (x := (.ptr 0 0)) (H := [.cells 33 (Course.cells a1)]) rfl rfl ?_
  refine vV (x := (.str [])) (OpV.assign rfl rfl) ?_
  refine vV (x := (.int .i64 0)) (OpV.assign rfl rfl) ?_
  refine WO.nil ?_
  refine seqN ?_
  refine TC.seq ?_
  refine TC.seq ?_
  refine TC.region ?_
  refine vV (x := (.int .i64 a2)) (OpV.move rfl rfl) ?_
  refine vV (x := (.bool (a2 == (-1)))) (OpV.eql rfl rfl rfl) ?_
  refine WO.nil ?_
  refine seqN ?_
  refine TC.cond rfl (fun hc1 => ?_) (fun hc1 => ?_)
  · have h := ifT hc1 h
    refine TC.seq ?_
    refine TC.region ?_
    refine vV (x := (.str [])) (OpV.assign rfl rfl) ?_
    refine vV (x := (.int .i64 0)) (OpV.assign rfl rfl) ?_
    refine WO.nil ?_
    refine seqN ?_
    refine TC.ret ?_
    refine seqR ?_
    obtain rfl := Option.some.inj h
    refine ⟨[(4, .str (([], 0).1)), (5, .int .i64 (([], 0).2))], [], _, ?_, ResOK.two rfl rfl rfl, rfl, rfl⟩
    exact Le.ren [] rfl rfl (by decide) ⟨rfl, rfl, trivial⟩
  have h := ifF hc1 h
  refine TC.skip ?_
  refine seqN ?_
  refine TC.seq ?_
  refine TC.seq ?_
  obtain ⟨b3, h4, h⟩ := bnd h
  refine TC.cut ([(1, .int .i64 a2), (2, .ptr 0 0), (16, .bool b3.2)]) ([.cells 33 (Course.cells b3.1)]) ?_ (fun env H hle => ?_)
  ·
    refine TC.region ?_
    refine vV (x := (.int .i64 a2)) (OpV.move rfl rfl) ?_
    refine vV (x := (.bool (decide (a2 < 0)))) (OpV.lss rfl rfl rfl) ?_
    refine vV (x := (.bool (decide (a2 < 0)))) (OpV.move rfl rfl) ?_
    rcases bTF (decide (a2 < 0)) with hg5 | hg5
    · have h4 := ifT hg5 h4
      refine vS (gF hg5) ?_
      refine vS (gF hg5) ?_
      refine vS (gF hg5) ?_
      refine vS (gF hg5) ?_
      refine vS (gF hg5) ?_
      refine vV (x := (.bool true)) (OpV.pickT hg5) ?_
      refine WO.nil ?_
      obtain rfl := Option.some.inj h4
      refine cutN ?_
      exact Le.ren [0] rfl rfl (by decide) ⟨rfl, rfl, rfl, trivial⟩
    · have h4 := ifF hg5 h4
      refine vV (x := (.int .i64 a2)) (OpV.move rfl rfl) ?_ (gT hg5)
      refine vV (x := (.ptr 0 6)) (OpV.fieldP fa_33_6 rfl rfl) ?_ (gT hg5)
      refine vV (x := (.rsl 3 (List.map Category.cells a1.Categories))) (OpV.load rfl Tryz.isAgg27 rfl (Pts.cells rfl rfl)) ?_ (gT hg5)
      refine vV (x := (.int .i64 (a1.Categories.length : Int))) (OpV.lenM Tryz.runUnderlying27) ?_ (gT hg5)
      refine vV (x := (.bool (decide ((a1.Categories.length : Int) ≤ a2)))) (OpV.geq rfl rfl rfl) ?_ (gT hg5)
      refine vV (x := (.bool (decide ((a1.Categories.length : Int) ≤ a2)))) (OpV.pickF hg5) ?_
      refine WO.nil ?_
      obtain rfl := Option.some.inj h4
      refine cutN ?_
      exact Le.ren [0] rfl rfl (by decide) ⟨rfl, rfl, rfl, trivial⟩
  refine seqN (TC.le hle ?_)
  refine TC.cond rfl (fun hc6 => ?_) (fun hc6 => ?_)
  · have h := ifT hc6 h
    refine TC.seq ?_
    refine TC.region ?_
    refine vV (x := (.str [])) (OpV.assign rfl rfl) ?_
    refine vV (x := (.int .i64 290)) (OpV.assign rfl rfl) ?_
    refine WO.nil ?_
    refine seqN ?_
    refine TC.ret ?_
    refine seqR ?_
    obtain rfl := Option.some.inj h
    refine ⟨[(4, .str (([], 290).1)), (5, .int .i64 (([], 290).2))], [], _, ?_, ResOK.two rfl rfl rfl, rfl, rfl⟩
    exact Le.ren [] rfl rfl (by decide) ⟨rfl, rfl, trivial⟩
  have h := ifF hc6 h
  refine TC.skip ?_
  refine seqN ?_
  refine TC.seq ?_
  refine TC.region ?_
  refine vV (x := (.ptr 0 6)) (OpV.fieldP fa_33_6 rfl rfl) ?_
  refine vV (x := (.rsl 3 (List.map Category.cells b3.1.Categories))) (OpV.load rfl Tryz.isAgg27 rfl (Pts.cells rfl rfl)) ?_
  refine vV (x := (.int .i64 a2)) (OpV.move rfl rfl) ?_
  obtain ⟨x7, hx7, h⟩ := bnd h
  refine vV (x := (.rp [.str x7.Name, .int .i64 x7.From, .int .i64 x7.To])) (OpV.ixM (e := Category.cells) (v := x7) hx7 Tryz.runUnderlying27 Tryz.sizeOf52) ?_
  refine vV (x := (.rp [.str x7.Name, .int .i64 x7.From, .int .i64 x7.To])) (OpV.fieldR fa_52_0 rfl rfl rfl) ?_
  refine vV (x := (.str x7.Name)) (OpV.load rfl Tryz.isAgg9 rfl Pts.rp) ?_
  refine vV (x := (.str x7.Name)) (OpV.assign rfl rfl) ?_
  refine vV (x := (.int .i64 0)) (OpV.assign rfl rfl) ?_
  refine WO.nil ?_
  refine seqN ?_
  refine TC.ret ?_
  obtain rfl := Option.some.inj h
  refine ⟨[(4, .str ((x7.Name, 0).1)), (5, .int .i64 ((x7.Name, 0).2))], [], _, ?_, ResOK.two rfl rfl rfl, rfl, rfl⟩
  exact Le.ren [] rfl rfl (by decide) ⟨rfl, rfl, trivial⟩

/- stopwatch/categories.Of -/
def F_categories_Of_L1 (n : Nat) (a1 : Course) (s29 : Starter × (List Int) × Int) : Option (Ctl (Starter × (List Int) × Int) (List Int)) :=
  (bif decide (s29.2.2 < (a1.Categories.length : Int)) then (idx a1.Categories s29.2.2).bind fun x33 => ((bif decide (x33.From ≤ s29.1.Age) then some (s29.1, decide (s29.1.Age ≤ x33.To)) else some (s29.1, false)) : Option (Starter × Bool)).bind fun b35 => ((bif b35.2 then (app s29.2.1 [s29.2.2]).bind fun l43 => some (b35.1, l43) else some (b35.1, s29.2.1)) : Option (Starter × (List Int))).bind fun b40 => some (.cont (b40.1, b40.2, IntKind.i64.wrap (s29.2.2 + 1))) else some (.done s29.2.1))
def F_categories_Of (n : Nat) (a1 : Course) (a2 : Starter) : Option (List Int) :=
  (iter (F_categories_Of_L1 n a1) n (a2, [], 0) : Option (List Int)).bind fun b26 => some b26
theorem ok_categories_Of (n : Nat) (a1 : Course) (a2 : Starter) (r : List Int) (h : F_categories_Of n a1 a2 = some r) :
    C Tryz.prog 12 [.agg (Course.cells a1), .agg (Starter.cells a2)] [] (fun a H => a = .osl 0 0 r.length 1 ∧ H = [.row 3 1 (List.map (encI .i64) r)]) := by
  refine C.of_body Tryz.func12 rfl rfl rfl ?_
  refine TC.seq ?_
  refine TC.region ?_
  refine vH (OpH.box rfl rfl rfl rfl rfl) ?_
  refine WO.atV (x := (.ptr 0 0)) (H := [.cells 33 (Course.cells a1)]) rfl rfl ?_
  refine vH (OpH.box rfl rfl rfl rfl rfl) ?_
  refine WO.atV (x := (.ptr 1 0)) (H := [.cells 33 (Course.cells a1), .cells 42 (Starter.cells a2)]) rfl rfl ?_
  refine vV (x := .nils) (OpV.assign rfl rfl) ?_
  refine WO.nil ?_
  refine seqN ?_
  refine TC.seq ?_
  refine TC.seq ?_
  refine TC.region ?_
  refine vV (x := (.ptr 0 6)) (OpV.fieldP fa_33_6 rfl rfl) ?_
  refine vV (x := (.rsl 3 (List.map Category.cells a1.Categories))) (OpV.load rfl Tryz.isAgg27 rfl (Pts.cells rfl rfl)) ?_
  refine vV (x := (.int .i64 (a1.Categories.length : Int))) (OpV.lenM Tryz.runUnderlying27) ?_
  refine vV (x := (.int .i64 0)) (OpV.move rfl rfl) ?_
  refine WO.nil ?_
  refine seqN ?_
  obtain ⟨b26, h27, h⟩ := bnd h
  refine TC.cut ([(4, .osl 0 0 b26.length 1)]) ([.row 3 1 (List.map (encI .i64) b26)]) ?_ (fun env H hle => ?_)
  ·
    refine TC.block ?_
    refine TC.loop (E := fun s29 => [(3, .ptr 0 0), (4, .osl 1 0 s29.2.1.length 1), (8, .rsl 3 (List.map Category.cells a1.Categories)), (9, .int .i64 (a1.Categories.length : Int)), (10, .int .i64 s29.2.2)]) (Hp := fun s29 => [.cells 42 (Starter.cells s29.1), .row 3 1 (List.map (encI .i64) s29.2.1)]) h27 ?_ ?_
    ·
      refine Le.trans (Le.phantom (s := 4) (k := 1) (t := 3) (Nat.le_of_ble_eq_true rfl) rfl) ?_
      exact Le.ren [1, 2] rfl rfl (by decide) ⟨rfl, rfl, rfl, rfl, rfl, trivial⟩
    intro s29 d30 h31 hb28
    refine TC.seq ?_
    refine TC.region ?_
    refine vV (x := (.bool (decide (s29.2.2 < (a1.Categories.length : Int))))) (OpV.lss rfl rfl rfl) ?_
    refine WO.nil ?_
    refine seqN ?_
    refine TC.seq ?_
    refine TC.condS rfl (fun hc32 => ?_) (fun hc32 => ?_)
    · have h31 := ifF hc32 h31
      refine TC.exit ?_
      refine seqX ?_
      refine loopX h31 ?_
      obtain rfl := hb28 _ (Option.some.inj h31).symm
      refine bloE ?_
      refine cutN ?_
      exact Le.ren [1] rfl rfl (by decide) ⟨rfl, trivial⟩
    have h31 := ifT hc32 h31
    refine TC.skip ?_
    refine seqN ?_
    refine TC.seq ?_
    refine TC.block ?_
    refine TC.seq ?_
    refine TC.region ?_
    refine vV (x := (.int .i64 s29.2.2)) (OpV.move rfl rfl) ?_
    obtain ⟨x33, hx33, h31⟩ := bnd h31
    refine vV (x := (.rp [.str x33.Name, .int .i64 x33.From, .int .i64 x33.To])) (OpV.ixM (e := Category.cells) (v := x33) hx33 Tryz.runUnderlying27 Tryz.sizeOf52) ?_
    refine vV (x := (.agg (Category.cells x33))) (OpV.loadA rfl Tryz.isAgg52 Tryz.sizeOf52 rfl Pts.rp rfl rfl) ?_
    refine vH (OpH.allocZ (v := (.agg [.str [], .int .i64 0, .int .i64 0])) Tryz.zeroValue52 (ZR.agg (ZL.cons ZR.str (ZL.cons ZR.int (ZL.cons ZR.int ZL.nil))))) ?_
    refine WO.atV (x := (.ptr 2 0)) (H := [.cells 42 (Starter.cells s29.1), .row 3 1 (List.map (encI .i64) s29.2.1), .cells 52 [.str [], .int .i64 0, .int .i64 0]]) rfl rfl ?_
    refine vV (x := (.int .i64 s29.2.2)) (OpV.assign rfl rfl) ?_
    refine vU (OpU.store rfl rfl rfl Tryz.sizeOf52 rfl rfl rfl rfl rfl rfl rfl) ?_
    refine WO.atH (H := [.cells 42 (Starter.cells s29.1), .row 3 1 (List.map (encI .i64) s29.2.1), .cells 52 (Category.cells x33)]) rfl ?_
    refine WO.nil ?_
    refine seqN ?_
    refine TC.seq ?_
    obtain ⟨b35, h36, h31⟩ := bnd h31
    refine TC.cut ([(3, .ptr 0 0), (4, .osl 1 0 s29.2.1.length 1), (5, .int .i64 s29.2.2), (8, .rsl 3 (List.map Category.cells a1.Categories)), (9, .int .i64 (a1.Categories.length : Int)), (10, .int .i64 s29.2.2), (26, .bool b35.2)]) ([.cells 42 (Starter.cells b35.1), .row 3 1 (List.map (encI .i64) s29.2.1)]) ?_ (fun env H hle => ?_)
    ·
      refine TC.region ?_
      refine vV (x := (.ptr 2 1)) (OpV.fieldP fa_52_1 rfl rfl) ?_
      refine vV (x := (.int .i64 x33.From)) (OpV.load rfl Tryz.isAgg3 rfl (Pts.cells rfl rfl)) ?_
      refine vV (x := (.ptr 0 4)) (OpV.fieldP fa_42_4 rfl rfl) ?_
      refine vV (x := (.int .i64 s29.1.Age)) (OpV.load rfl Tryz.isAgg3 rfl (Pts.cells rfl rfl)) ?_
      refine vV (x := (.bool (decide (x33.From ≤ s29.1.Age)))) (OpV.leq rfl rfl rfl) ?_
      refine vV (x := (.bool (decide (x33.From ≤ s29.1.Age)))) (OpV.move rfl rfl) ?_
      rcases bTF (decide (x33.From ≤ s29.1.Age)) with hg37 | hg37
      · have h36 := ifT hg37 h36
        refine vV (x := (.ptr 0 4)) (OpV.fieldP fa_42_4 rfl rfl) ?_ (gT hg37)
        refine vV (x := (.int .i64 s29.1.Age)) (OpV.load rfl Tryz.isAgg3 rfl (Pts.cells rfl rfl)) ?_ (gT hg37)
        refine vV (x := (.ptr 2 2)) (OpV.fieldP fa_52_2 rfl rfl) ?_ (gT hg37)
        refine vV (x := (.int .i64 x33.To)) (OpV.load rfl Tryz.isAgg3 rfl (Pts.cells rfl rfl)) ?_ (gT hg37)
        refine vV (x := (.bool (decide (s29.1.Age ≤ x33.To)))) (OpV.leq rfl rfl rfl) ?_ (gT hg37)
        refine vV (x := (.bool (decide (s29.1.Age ≤ x33.To)))) (OpV.pickT hg37) ?_
        refine WO.nil ?_
        obtain rfl := Option.some.inj h36
        refine cutN ?_
        exact Le.ren [0, 1] rfl rfl (by decide) ⟨rfl, rfl, rfl, rfl, rfl, rfl, rfl, trivial⟩
      · have h36 := ifF hg37 h36
        refine vS (gF hg37) ?_
        refine vS (gF hg37) ?_
        refine vS (gF hg37) ?_
        refine vS (gF hg37) ?_
        refine vS (gF hg37) ?_
        refine vV (x := (.bool false)) (OpV.pickF hg37) ?_
        refine WO.nil ?_
        obtain rfl := Option.some.inj h36
        refine cutN ?_
        exact Le.ren [0, 1] rfl rfl (by decide) ⟨rfl, rfl, rfl, rfl, rfl, rfl, rfl, trivial⟩
    refine seqN (TC.le hle ?_)
    obtain ⟨b40, h41, h31⟩ := bnd h31
    refine TC.cut ([(3, .ptr 0 0), (4, .osl 1 0 b40.2.length 1), (8, .rsl 3 (List.map Category.cells a1.Categories)), (9, .int .i64 (a1.Categories.length : Int)), (10, .int .i64 s29.2.2)]) ([.cells 42 (Starter.cells b40.1), .row 3 1 (List.map (encI .i64) b40.2)]) ?_ (fun env H hle => ?_)
    ·
      refine TC.cond rfl (fun hc42 => ?_) (fun hc42 => ?_)
      · have h41 := ifT hc42 h41
        refine TC.region ?_
        refine vV (x := (.osl 1 0 s29.2.1.length 1)) (OpV.move rfl rfl) ?_
        refine vV (x := (.int .i64 s29.2.2)) (OpV.move rfl rfl) ?_
        refine vH (OpH.lit (xs := [.tmp 28]) (es := List.map (encI .i64) [s29.2.2]) el_39 rfl rfl rfl rfl rfl ⟨rfl, trivial⟩ rfl rfl) ?_
        refine WO.atV (x := (.osl 2 0 ([s29.2.2].length) 1)) (H := [.cells 42 (Starter.cells b35.1), .row 3 1 (List.map (encI .i64) s29.2.1), .row 3 1 (List.map (encI .i64) [s29.2.2])]) rfl rfl ?_
        obtain ⟨l43, hl43, h41⟩ := bnd h41
        refine vH (OpH.appO (e := (encI .i64)) hl43 el_39 Tryz.runUnderlying39 (Src.oM (i := 2))) ?_
        refine WO.atV (x := (.osl 3 0 l43.length 1)) (H := [.cells 42 (Starter.cells b35.1), .dead, .row 3 1 (List.map (encI .i64) [s29.2.2]), .row 3 1 (List.map (encI .i64) l43)]) rfl rfl ?_
        refine vV (x := (.osl 3 0 l43.length 1)) (OpV.assign rfl rfl) ?_
        refine WO.nil ?_
        obtain rfl := Option.some.inj h41
        refine cutN ?_
        exact Le.ren [0, 3] rfl rfl (by decide) ⟨rfl, rfl, rfl, rfl, rfl, trivial⟩
      have h41 := ifF hc42 h41
      refine TC.skip ?_
      obtain rfl := Option.some.inj h41
      refine cutN ?_
      exact Le.ren [0, 1] rfl rfl (by decide) ⟨rfl, rfl, rfl, rfl, rfl, trivial⟩
    refine bloN ?_
    refine seqN (TC.le hle ?_)
    refine TC.region ?_
    refine vV (x := (.int .i64 (IntKind.i64.wrap (s29.2.2 + 1)))) (OpV.add rfl rfl rfl) ?_
    refine vV (x := (.int .i64 (IntKind.i64.wrap (s29.2.2 + 1)))) (OpV.move rfl rfl) ?_
    refine WO.nil ?_
    refine loopN h31 ?_
    exact Le.ren [0, 1] rfl rfl (by decide) ⟨rfl, rfl, rfl, rfl, rfl, trivial⟩
  refine seqN (TC.le hle ?_)
  refine TC.seq ?_
  refine TC.region ?_
  refine vV (x := (.osl 0 0 b26.length 1)) (OpV.move rfl rfl) ?_
  refine vV (x := (.osl 0 0 b26.length 1)) (OpV.assign rfl rfl) ?_
  refine WO.nil ?_
  refine seqN ?_
  refine TC.ret ?_
  obtain rfl := Option.some.inj h
  refine ⟨[(4, .osl 0 0 b26.length 1)], [.row 3 1 (List.map (encI .i64) b26)], _, ?_, ResOK.one rfl rfl, rfl, rfl⟩
  exact Le.ren [0] rfl rfl (by decide) ⟨rfl, trivial⟩

/- cmp.isNaN[int] -/
def F_cmp_isNaN (n : Nat) (a1 : Int) : Option Unit :=
  some ()
theorem ok_cmp_isNaN (n : Nat) (a1 : Int) (r : Unit) (h : F_cmp_isNaN n a1 = some r) :
    C Tryz.prog 61 [.int .i64 a1] [] (fun a H => a = .bool (a1 != a1) ∧ H = []) := by
  refine C.of_body Tryz.func61 rfl rfl rfl ?_
  refine TC.seq ?_
  refine TC.region ?_
  refine vV (x := (.bool false)) (OpV.assign rfl rfl) ?_
  refine WO.nil ?_
  refine seqN ?_
  refine TC.seq ?_
  refine TC.region ?_
  refine vV (x := (.int .i64 a1)) (OpV.move rfl rfl) ?_
  refine vV (x := (.int .i64 a1)) (OpV.move rfl rfl) ?_
  refine vV (x := (.bool (a1 != a1))) (OpV.neq rfl rfl rfl) ?_
  refine vV (x := (.bool (a1 != a1))) (OpV.assign rfl rfl) ?_
  refine WO.nil ?_
  refine seqN ?_
  refine TC.ret ?_
  obtain rfl := Option.some.inj h
  refine ⟨[(2, .bool (a1 != a1))], [], _, ?_, ResOK.one rfl rfl, rfl, rfl⟩
  exact Le.ren [] rfl rfl (by decide) ⟨rfl, trivial⟩

/- cmp.Compare[int] -/
def F_cmp_Compare (n : Nat) (a1 : Int) (a2 : Int) : Option Int :=
  (F_cmp_isNaN n a1).bind fun r1 => (F_cmp_isNaN n a2).bind fun r2 => (bif (a1 != a1) then (bif (a2 != a2) then some 0 else some (-1)) else (bif (a2 != a2) then some 1 else (bif decide (a1 < a2) then some (-1) else (bif decide (a2 < a1) then some 1 else some 0))))
theorem ok_cmp_Compare (n : Nat) (a1 : Int) (a2 : Int) (r : Int) (h : F_cmp_Compare n a1 a2 = some r) :
    C Tryz.prog 36 [.int .i64 a1, .int .i64 a2] [] (fun a H => a = .int .i64 r ∧ H = []) := by
  refine C.of_body Tryz.func36 rfl rfl rfl ?_
  refine TC.seq ?_
  refine TC.region ?_
  refine vV (x := (.int .i64 0)) (OpV.assign rfl rfl) ?_
  refine WO.nil ?_
  refine seqN ?_
  refine TC.seq ?_
  refine TC.region ?_
  refine vV (x := (.int .i64 a1)) (OpV.move rfl rfl) ?_
  obtain ⟨r1, hr1, h⟩ := bnd h
  refine WO.callD [] (OpC.fn Tryz.call61 rfl rfl rfl) (ok_cmp_isNaN _ _ _ hr1) ?_
  rintro _ _ ⟨rfl, rfl⟩
  refine WO.atV (x := (.bool (a1 != a1))) (H := []) rfl rfl ?_
  refine vV (x := (.bool (a1 != a1))) (OpV.assign rfl rfl) ?_
  refine WO.nil ?_
  refine seqN ?_
  refine TC.seq ?_
  refine TC.region ?_
  refine vV (x := (.int .i64 a2)) (OpV.move rfl rfl) ?_
  obtain ⟨r2, hr2, h⟩ := bnd h
  refine WO.callD [] (OpC.fn Tryz.call61 rfl rfl rfl) (ok_cmp_isNaN _ _ _ hr2) ?_
  rintro _ _ ⟨rfl, rfl⟩
  refine WO.atV (x := (.bool (a2 != a2))) (H := []) rfl rfl ?_
  refine vV (x := (.bool (a2 != a2))) (OpV.assign rfl rfl) ?_
  refine WO.nil ?_
  refine seqN ?_
  refine TC.seq ?_
  refine TC.seq ?_
  refine TC.region ?_
  refine vV (x := (.bool (a1 != a1))) (OpV.move rfl rfl) ?_
  refine WO.nil ?_
  refine seqN ?_
  refine TC.cond rfl (fun hc3 => ?_) (fun hc3 => ?_)
  · have h := ifT hc3 h
    refine TC.seq ?_
    refine TC.seq ?_
    refine TC.region ?_
    refine vV (x := (.bool (a2 != a2))) (OpV.move rfl rfl) ?_
    refine WO.nil ?_
    refine seqN ?_
    refine TC.cond rfl (fun hc4 => ?_) (fun hc4 => ?_)
    · have h := ifT hc4 h
      refine TC.seq ?_
      refine TC.region ?_
      refine vV (x := (.int .i64 0)) (OpV.assign rfl rfl) ?_
      refine WO.nil ?_
      refine seqN ?_
      refine TC.ret ?_
      refine seqR ?_
      refine seqR ?_
      obtain rfl := Option.some.inj h
      refine ⟨[(4, .int .i64 0)], [], _, ?_, ResOK.one rfl rfl, rfl, rfl⟩
      exact Le.ren [] rfl rfl (by decide) ⟨rfl, trivial⟩
    have h := ifF hc4 h
    refine TC.skip ?_
    refine seqN ?_
    refine TC.seq ?_
    refine TC.region ?_
    refine vV (x := (.int .i64 (-1))) (OpV.assign rfl rfl) ?_
    refine WO.nil ?_
    refine seqN ?_
    refine TC.ret ?_
    refine seqR ?_
    obtain rfl := Option.some.inj h
    refine ⟨[(4, .int .i64 (-1))], [], _, ?_, ResOK.one rfl rfl, rfl, rfl⟩
    exact Le.ren [] rfl rfl (by decide) ⟨rfl, trivial⟩
  have h := ifF hc3 h
  refine TC.skip ?_
  refine seqN ?_
  refine TC.seq ?_
  refine TC.seq ?_
  refine TC.region ?_
  refine vV (x := (.bool (a2 != a2))) (OpV.move rfl rfl) ?_
  refine WO.nil ?_
  refine seqN ?_
  refine TC.cond rfl (fun hc5 => ?_) (fun hc5 => ?_)
  · have h := ifT hc5 h
    refine TC.seq ?_
    refine TC.region ?_
    refine vV (x := (.int .i64 1)) (OpV.assign rfl rfl) ?_
    refine WO.nil ?_
    refine seqN ?_
    refine TC.ret ?_
    refine seqR ?_
    obtain rfl := Option.some.inj h
    refine ⟨[(4, .int .i64 1)], [], _, ?_, ResOK.one rfl rfl, rfl, rfl⟩
    exact Le.ren [] rfl rfl (by decide) ⟨rfl, trivial⟩
  have h := ifF hc5 h
  refine TC.skip ?_
  refine seqN ?_
  refine TC.seq ?_
  refine TC.seq ?_
  refine TC.region ?_
  refine vV (x := (.int .i64 a1)) (OpV.move rfl rfl) ?_
  refine vV (x := (.int .i64 a2)) (OpV.move rfl rfl) ?_
  refine vV (x := (.bool (decide (a1 < a2)))) (OpV.lss rfl rfl rfl) ?_
  refine WO.nil ?_
  refine seqN ?_
  refine TC.cond rfl (fun hc6 => ?_) (fun hc6 => ?_)
  · have h := ifT hc6 h
    refine TC.seq ?_
    refine TC.region ?_
    refine vV (x := (.int .i64 (-1))) (OpV.assign rfl rfl) ?_
    refine WO.nil ?_
    refine seqN ?_
    refine TC.ret ?_
    refine seqR ?_
    obtain rfl := Option.some.inj h
    refine ⟨[(4, .int .i64 (-1))], [], _, ?_, ResOK.one rfl rfl, rfl, rfl⟩
    exact Le.ren [] rfl rfl (by decide) ⟨rfl, trivial⟩
  have h := ifF hc6 h
  refine TC.skip ?_
  refine seqN ?_
  refine TC.seq ?_
  refine TC.seq ?_
  refine TC.region ?_
  refine vV (x := (.int .i64 a1)) (OpV.move rfl rfl) ?_
  refine vV (x := (.int .i64 a2)) (OpV.move rfl rfl) ?_
  refine vV (x := (.bool (decide (a2 < a1)))) (OpV.gtr rfl rfl rfl) ?_
  refine WO.nil ?_
  refine seqN ?_
  refine TC.cond rfl (fun hc7 => ?_) (fun hc7 => ?_)
  · have h := ifT hc7 h
    refine TC.seq ?_
    refine TC.region ?_
    refine vV (x := (.int .i64 1)) (OpV.assign rfl rfl) ?_
    refine WO.nil ?_
    refine seqN ?_
    refine TC.ret ?_
    refine seqR ?_
    obtain rfl := Option.some.inj h
    refine ⟨[(4, .int .i64 1)], [], _, ?_, ResOK.one rfl rfl, rfl, rfl⟩
    exact Le.ren [] rfl rfl (by decide) ⟨rfl, trivial⟩
  have h := ifF hc7 h
  refine TC.skip ?_
  refine seqN ?_
  refine TC.seq ?_
  refine TC.region ?_
  refine vV (x := (.int .i64 0)) (OpV.assign rfl rfl) ?_
  refine WO.nil ?_
  refine seqN ?_
  refine TC.ret ?_
  obtain rfl := Option.some.inj h
  refine ⟨[(4, .int .i64 0)], [], _, ?_, ResOK.one rfl rfl, rfl, rfl⟩
  exact Le.ren [] rfl rfl (by decide) ⟨rfl, trivial⟩

/- cmp.Or[int] -/
def F_cmp_Or_L1 (n : Nat) (a1 : List Int) (s11 : Int) : Option (Ctl Int (Ctl Unit Int)) :=
  (bif decide (s11 < (a1.length : Int)) then (idx a1 s11).bind fun x15 => (bif (x15 != 0) then some (.done (.done x15)) else some (.cont (IntKind.i64.wrap (s11 + 1)))) else some (.done (.cont ())))
def F_cmp_Or (n : Nat) (a1 : List Int) : Option Int :=
  (iter (F_cmp_Or_L1 n a1) n 0 : Option (Ctl Unit Int)).bind fun b8 => match b8 with | .cont sb8 => (some 0) | .done sb8 => some sb8
theorem ok_cmp_Or (n : Nat) (a1 : List Int) (r : Int) (h : F_cmp_Or n a1 = some r) :
    C Tryz.prog 35 [.rsl 1 (List.map (encI .i64) a1)] [] (fun a H => a = .int .i64 r ∧ H = []) := by
  refine C.of_body Tryz.func35 rfl rfl rfl ?_
  refine TC.seq ?_
  refine TC.region ?_
  refine vV (x := (.int .i64 0)) (OpV.assign rfl rfl) ?_
  refine WO.nil ?_
  refine seqN ?_
  refine TC.seq ?_
  refine TC.region ?_
  refine vV (x := (.int .i64 0)) (OpV.assign rfl rfl) ?_
  refine WO.nil ?_
  refine seqN ?_
  refine TC.seq ?_
  refine TC.seq ?_
  refine TC.region ?_
  refine vV (x := (.rsl 1 (List.map (encI .i64) a1))) (OpV.move rfl rfl) ?_
  refine vV (x := (.int .i64 (a1.length : Int))) (OpV.lenM Tryz.runUnderlying39) ?_
  refine vV (x := (.int .i64 0)) (OpV.move rfl rfl) ?_
  refine WO.nil ?_
  refine seqN ?_
  obtain ⟨b8, h9, h⟩ := bnd h
  refine TC.cutE (b := b8) (fun sb8 => [(3, .int .i64 0)]) (fun sb8 => []) ?_ (fun sb8 env H hbe hle => ?_)
  ·
    refine TC.block ?_
    refine TC.loop (E := fun s11 => [(3, .int .i64 0), (6, .rsl 1 (List.map (encI .i64) a1)), (7, .int .i64 (a1.length : Int)), (8, .int .i64 s11)]) (Hp := fun s11 => []) h9 ?_ ?_
    ·
      exact Le.ren [] rfl rfl (by decide) ⟨rfl, rfl, rfl, rfl, trivial⟩
    intro s11 d12 h13 hb10
    refine TC.seq ?_
    refine TC.region ?_
    refine vV (x := (.bool (decide (s11 < (a1.length : Int))))) (OpV.lss rfl rfl rfl) ?_
    refine WO.nil ?_
    refine seqN ?_
    refine TC.seq ?_
    refine TC.condS rfl (fun hc14 => ?_) (fun hc14 => ?_)
    · have h13 := ifF hc14 h13
      refine TC.exit ?_
      refine seqX ?_
      refine loopX h13 ?_
      obtain rfl := hb10 _ (Option.some.inj h13).symm
      refine bloE ?_
      refine cutEN rfl ?_
      exact Le.ren [] rfl rfl (by decide) ⟨rfl, trivial⟩
    have h13 := ifT hc14 h13
    refine TC.skip ?_
    refine seqN ?_
    refine TC.seq ?_
    refine TC.block ?_
    refine TC.seq ?_
    refine TC.region ?_
    obtain ⟨x15, hx15, h13⟩ := bnd h13
    refine vV (x := (.rp [.int .i64 x15])) (OpV.ixM (e := (encI .i64)) (v := x15) hx15 Tryz.runUnderlying39 Tryz.sizeOf3) ?_
    refine vV (x := (.int .i64 x15)) (OpV.load rfl Tryz.isAgg3 rfl Pts.rp) ?_
    refine vV (x := (.int .i64 x15)) (OpV.assign rfl rfl) ?_
    refine WO.nil ?_
    refine seqN ?_
    refine TC.seq ?_
    refine TC.region ?_
    refine vV (x := (.int .i64 x15)) (OpV.move rfl rfl) ?_
    refine vV (x := (.int .i64 0)) (OpV.move rfl rfl) ?_
    refine vV (x := (.bool (x15 != 0))) (OpV.neq rfl rfl rfl) ?_
    refine WO.nil ?_
    refine seqN ?_
    refine TC.cond rfl (fun hc16 => ?_) (fun hc16 => ?_)
    · have h13 := ifT hc16 h13
      refine TC.seq ?_
      refine TC.region ?_
      refine vV (x := (.int .i64 x15)) (OpV.move rfl rfl) ?_
      refine vV (x := (.int .i64 x15)) (OpV.assign rfl rfl) ?_
      refine WO.nil ?_
      refine seqN ?_
      refine TC.ret ?_
      refine bloR ?_
      refine seqR ?_
      refine loopR h13 ?_
      obtain rfl := hb10 _ (Option.some.inj h13).symm
      refine bloR ?_
      refine cutER ?_
      refine seqR ?_
      obtain rfl := Option.some.inj h
      refine ⟨[(2, .int .i64 x15)], [], _, ?_, ResOK.one rfl rfl, rfl, rfl⟩
      exact Le.ren [] rfl rfl (by decide) ⟨rfl, trivial⟩
    have h13 := ifF hc16 h13
    refine TC.skip ?_
    refine bloN ?_
    refine seqN ?_
    refine TC.region ?_
    refine vV (x := (.int .i64 (IntKind.i64.wrap (s11 + 1)))) (OpV.add rfl rfl rfl) ?_
    refine vV (x := (.int .i64 (IntKind.i64.wrap (s11 + 1)))) (OpV.move rfl rfl) ?_
    refine WO.nil ?_
    refine loopN h13 ?_
    exact Le.ren [] rfl rfl (by decide) ⟨rfl, rfl, rfl, rfl, trivial⟩
  subst hbe
  refine seqN (TC.le hle ?_)
  refine TC.seq ?_
  refine TC.region ?_
  refine vV (x := (.int .i64 0)) (OpV.move rfl rfl) ?_
  refine vV (x := (.int .i64 0)) (OpV.assign rfl rfl) ?_
  refine WO.nil ?_
  refine seqN ?_
  refine TC.ret ?_
  obtain rfl := Option.some.inj h
  refine ⟨[(2, .int .i64 0)], [], _, ?_, ResOK.one rfl rfl, rfl, rfl⟩
  exact Le.ren [] rfl rfl (by decide) ⟨rfl, trivial⟩

/- stopwatch/categories.Tables$1 -/
def F_categories_Tables_1 (n : Nat) (a1 : categories_table) (a2 : categories_table) : Option Int :=
  (F_cmp_Compare n a1.distance a2.distance).bind fun r1 => (F_cmp_Compare n a1.category a2.category).bind fun r2 => (F_cmp_Or n [r1, r2]).bind fun r3 => some r3
theorem ok_categories_Tables_1 (n : Nat) (a1 : categories_table) (a2 : categories_table) (r : Int) (h : F_categories_Tables_1 n a1 a2 = some r) :
    C Tryz.prog 34 [.agg (categories_table.cells a1), .agg (categories_table.cells a2)] [] (fun a H => a = .int .i64 r ∧ H = []) := by
  refine C.of_body Tryz.func34 rfl rfl rfl ?_
  refine TC.seq ?_
  refine TC.region ?_
  refine vH (OpH.box rfl rfl rfl rfl rfl) ?_
  refine WO.atV (x := (.ptr 0 0)) (H := [.cells 76 (categories_table.cells a1)]) rfl rfl ?_
  refine vH (OpH.box rfl rfl rfl rfl rfl) ?_
  refine WO.atV (x := (.ptr 1 0)) (H := [.cells 76 (categories_table.cells a1), .cells 76 (categories_table.cells a2)]) rfl rfl ?_
  refine vV (x := (.int .i64 0)) (OpV.assign rfl rfl) ?_
  refine WO.nil ?_
  refine seqN ?_
  refine TC.seq ?_
  obtain ⟨r1, hr1, h⟩ := bnd h
  refine TC.draw 9 0 [5, 6, 7, 8, 9, 10, 11, 12, 13] [0, 0, 0, 0, 0, 0, 0, 0, 0] [false, false, false, false, false, false, false, false, false] [.ptr 0 0, .int .i64 a1.distance, .ptr 1 0, .int .i64 a2.distance, .int .i64 r1, .ptr 0 1, .int .i64 a1.category, .ptr 1 1, .int .i64 a2.category] [[.cells 76 (categories_table.cells a1), .cells 76 (categories_table.cells a2)]] ([.cells 76 (categories_table.cells a1), .cells 76 (categories_table.cells a2)]) draws rfl rfl rfl rfl rfl rfl rfl rfl ?_ ?_
  · refine OblL.cons ?_ (OblL.cons ?_ (OblL.cons ?_ (OblL.cons ?_ (OblL.cons ?_ (OblL.cons ?_ (OblL.cons ?_ (OblL.cons ?_ (OblL.cons ?_ (OblL.nil)))))))))
    · refine OblL.stC ?_ (OblL.st0)
      · refine OblAt.mk _ [(2, .ptr 0 0)] 5 (.ptr 0 0) rfl rfl rfl (SubE.old rfl rfl SubE.nil) ?_
        refine vV (x := (.ptr 0 0)) (OpV.fieldP fa_76_0 rfl rfl) ?_
        exact WO.nil Post1.mk
    · refine OblL.stC ?_ (OblL.st0)
      · refine OblAt.mk _ [(5, .ptr 0 0)] 6 (.int .i64 a1.distance) rfl rfl rfl (SubE.dep 0 rfl rfl rfl SubE.nil) ?_
        refine vV (x := (.int .i64 a1.distance)) (OpV.load rfl Tryz.isAgg3 rfl (Pts.cells rfl rfl)) ?_
        exact WO.nil Post1.mk
    · refine OblL.stC ?_ (OblL.st0)
      · refine OblAt.mk _ [(3, .ptr 1 0)] 7 (.ptr 1 0) rfl rfl rfl (SubE.old rfl rfl SubE.nil) ?_
        refine vV (x := (.ptr 1 0)) (OpV.fieldP fa_76_0 rfl rfl) ?_
        exact WO.nil Post1.mk
    · refine OblL.stC ?_ (OblL.st0)
      · refine OblAt.mk _ [(7, .ptr 1 0)] 8 (.int .i64 a2.distance) rfl rfl rfl (SubE.dep 2 rfl rfl rfl SubE.nil) ?_
        refine vV (x := (.int .i64 a2.distance)) (OpV.load rfl Tryz.isAgg3 rfl (Pts.cells rfl rfl)) ?_
        exact WO.nil Post1.mk
    · refine OblL.stC ?_ (OblL.st0)
      · refine OblAt.mk _ [(6, .int .i64 a1.distance), (8, .int .i64 a2.distance)] 9 (.int .i64 r1) rfl rfl rfl (SubE.dep 1 rfl rfl rfl (SubE.dep 3 rfl rfl rfl SubE.nil)) ?_
        refine WO.callD [] (OpC.fn Tryz.call36 rfl rfl rfl) (ok_cmp_Compare _ _ _ _ hr1) ?_
        rintro _ _ ⟨rfl, rfl⟩
        refine WO.atV (x := (.int .i64 r1)) (H := [.cells 76 (categories_table.cells a1), .cells 76 (categories_table.cells a2)]) rfl rfl ?_
        exact WO.nil Post1.mk
    · refine OblL.stC ?_ (OblL.st0)
      · refine OblAt.mk _ [(2, .ptr 0 0)] 10 (.ptr 0 1) rfl rfl rfl (SubE.old rfl rfl SubE.nil) ?_
        refine vV (x := (.ptr 0 1)) (OpV.fieldP fa_76_1 rfl rfl) ?_
        exact WO.nil Post1.mk
    · refine OblL.stC ?_ (OblL.st0)
      · refine OblAt.mk _ [(10, .ptr 0 1)] 11 (.int .i64 a1.category) rfl rfl rfl (SubE.dep 5 rfl rfl rfl SubE.nil) ?_
        refine vV (x := (.int .i64 a1.category)) (OpV.load rfl Tryz.isAgg3 rfl (Pts.cells rfl rfl)) ?_
        exact WO.nil Post1.mk
    · refine OblL.stC ?_ (OblL.st0)
      · refine OblAt.mk _ [(3, .ptr 1 0)] 12 (.ptr 1 1) rfl rfl rfl (SubE.old rfl rfl SubE.nil) ?_
        refine vV (x := (.ptr 1 1)) (OpV.fieldP fa_76_1 rfl rfl) ?_
        exact WO.nil Post1.mk
    · refine OblL.stC ?_ (OblL.st0)
      · refine OblAt.mk _ [(12, .ptr 1 1)] 13 (.int .i64 a2.category) rfl rfl rfl (SubE.dep 7 rfl rfl rfl SubE.nil) ?_
        refine vV (x := (.int .i64 a2.category)) (OpV.load rfl Tryz.isAgg3 rfl (Pts.cells rfl rfl)) ?_
        exact WO.nil Post1.mk
  obtain ⟨r2, hr2, h⟩ := bnd h
  refine WO.callD [] (OpC.fn Tryz.call36 rfl rfl rfl) (ok_cmp_Compare _ _ _ _ hr2) ?_
  rintro _ _ ⟨rfl, rfl⟩
  refine WO.atV (x := (.int .i64 r2)) (H := [.cells 76 (categories_table.cells a1), .cells 76 (categories_table.cells a2)]) rfl rfl ?_
  refine vH (OpH.litR (xs := [.tmp 9, .tmp 14]) (es := List.map (encI .i64) [r1, r2]) el_39 rfl rfl rfl rfl rfl ⟨rfl, rfl, trivial⟩ rfl rfl) ?_
  refine WO.atV (x := (.rsl 1 (List.map (encI .i64) [r1, r2]))) (H := [.cells 76 (categories_table.cells a1), .cells 76 (categories_table.cells a2)]) rfl rfl ?_
  obtain ⟨r3, hr3, h⟩ := bnd h
  refine WO.callD [] (OpC.fn Tryz.call35 rfl rfl rfl) (ok_cmp_Or _ _ _ hr3) ?_
  rintro _ _ ⟨rfl, rfl⟩
  refine WO.atV (x := (.int .i64 r3)) (H := [.cells 76 (categories_table.cells a1), .cells 76 (categories_table.cells a2)]) rfl rfl ?_
  refine vV (x := (.int .i64 r3)) (OpV.assign rfl rfl) ?_
  refine WO.nil ?_
  refine seqN ?_
  refine TC.ret ?_
  obtain rfl := Option.some.inj h
  refine ⟨[(4, .int .i64 r3)], [], _, ?_, ResOK.one rfl rfl, rfl, rfl⟩
  exact Le.ren [] rfl rfl (by decide) ⟨rfl, trivial⟩

/- stopwatch/categories.Tables -/
def F_categories_Tables_L2 (n : Nat) (l144 : List Int) (s155 : Course × (List (categories_table × Bool)) × Starter × Int) : Option (Ctl (Course × (List (categories_table × Bool)) × Starter × Int) (Course × (List (categories_table × Bool)))) :=
  (bif decide (s155.2.2.2 < (l144.length : Int)) then (idx l144 s155.2.2.2).bind fun x159 => (some (mset s155.2.1 ({ distance := s155.2.2.1.Distance, category := x159 : categories_table }) true)).bind fun m160 => some (.cont (s155.1, m160, s155.2.2.1, IntKind.i64.wrap (s155.2.2.2 + 1))) else some (.done (s155.1, s155.2.1)))
def F_categories_Tables_L1 (n : Nat) (a2 : List Starter) (s107 : Course × (List (categories_table × Bool)) × Int) : Option (Ctl (Course × (List (categories_table × Bool)) × Int) (List (categories_table × Bool))) :=
  (bif decide (s107.2.2 < (a2.length : Int)) then ((idx a2 s107.2.2).bind fun x137 => ((bif decide (x137.Distance < 0) then some (s107.1, x137, true) else some (s107.1, x137, decide ((s107.1.Distances.length : Int) ≤ x137.Distance))) : Option (Course × Starter × Bool)).bind fun b139 => (bif b139.2.2 then some (b139.1, s107.2.1) else (F_categories_Of n b139.1 b139.2.1).bind fun r143 => (app r143 [(-1)]).bind fun l144 => (iter (F_categories_Tables_L2 n l144) n (b139.1, s107.2.1, b139.2.1, 0) : Option (Course × (List (categories_table × Bool)))).bind fun b152 => some (b152.1, b152.2)) : Option (Course × (List (categories_table × Bool)))).bind fun b135 => some (.cont (b135.1, b135.2, IntKind.i64.wrap (s107.2.2 + 1))) else some (.done s107.2.1))
def F_categories_Tables_L3E (n : Nat) (s184 : List categories_table) (e192 : categories_table × Bool) : Option (Ctl (List categories_table) (List categories_table)) :=
  (app s184 [e192.1]).bind fun l198 => some (.cont l198)
def F_categories_Tables_L3N (n : Nat) (s184 : List categories_table) : Option (List categories_table) :=
  some s184
def F_categories_Tables_L4 (n : Nat) (l199 : List categories_table) (s212 : (List Int) × (List Int) × Int) : Option (Ctl ((List Int) × (List Int) × Int) ((List Int) × (List Int))) :=
  (bif decide (s212.2.2 < (l199.length : Int)) then (idx l199 s212.2.2).bind fun x216 => (app s212.1 [x216.distance]).bind fun l217 => (app s212.2.1 [x216.category]).bind fun l218 => some (.cont (l217, l218, IntKind.i64.wrap (s212.2.2 + 1))) else some (.done (s212.1, s212.2.1)))
def F_categories_Tables (n : Nat) (a1 : Course) (a2 : List Starter) : Option ((List Int) × (List Int)) :=
  (iter (F_categories_Tables_L1 n a2) n (a1, [], 0) : Option (List (categories_table × Bool))).bind fun b104 => anyP (fun p219 => (runP (F_categories_Tables_L3E n) (F_categories_Tables_L3N n) [] p219).bind fun b182 => (sortF (fun x y => F_categories_Tables_1 n x y) b182).bind fun l199 => (iter (F_categories_Tables_L4 n l199) n ([], [], 0) : Option ((List Int) × (List Int))).bind fun b209 => some (b209.1, b209.2)) b104
theorem ok_categories_Tables (n : Nat) (a1 : Course) (a2 : List Starter) (r : (List Int) × (List Int)) (h : F_categories_Tables n a1 a2 = some r) :
    C Tryz.prog 18 [.agg (Course.cells a1), .rsl 8 (List.map Starter.cells a2)] [] (fun a H => a = .tup [.osl 0 0 r.1.length 1, .osl 1 0 r.2.length 1] ∧ H = [.row 3 1 (List.map (encI .i64) r.1), .row 3 1 (List.map (encI .i64) r.2)]) := by
  refine C.of_body Tryz.func18 rfl rfl rfl ?_
  refine TC.seq ?_
  refine TC.region ?_
  refine vH (OpH.box rfl rfl rfl rfl rfl) ?_
  refine WO.atV (x := (.ptr 0 0)) (H := [.cells 33 (Course.cells a1)]) rfl rfl ?_
  refine vV (x := .nils) (OpV.assign rfl rfl) ?_
  refine vV (x := .nils) (OpV.assign rfl rfl) ?_
  refine WO.nil ?_
  refine seqN ?_
  refine TC.seq ?_
  refine TC.region ?_
  refine vH OpH.mkMap ?_
  refine WO.atV (x := (.map 1)) (H := [.cells 33 (Course.cells a1), .map (menc (fun x => A.agg (categories_table.cells x)) A.bool [])]) rfl rfl ?_
  refine vV (x := (.map 1)) (OpV.assign rfl rfl) ?_
  refine WO.nil ?_
  refine seqN ?_
  refine TC.seq ?_
  refine TC.seq ?_
  refine TC.region ?_
  refine vV (x := (.rsl 8 (List.map Starter.cells a2))) (OpV.move rfl rfl) ?_
  refine vV (x := (.int .i64 (a2.length : Int))) (OpV.lenM Tryz.runUnderlying34) ?_
  refine vV (x := (.int .i64 0)) (OpV.move rfl rfl) ?_
  refine WO.nil ?_
  refine seqN ?_
  obtain ⟨b104, h105, h⟩ := bnd h
  refine TC.cut ([(4, .nils), (5, .nils), (6, .map 0)]) ([.map (menc (fun x => A.agg (categories_table.cells x)) A.bool b104)]) ?_ (fun env H hle => ?_)
  ·
    refine TC.block ?_
    refine TC.loop (E := fun s107 => [(2, .ptr 0 0), (4, .nils), (5, .nils), (6, .map 1), (16, .rsl 8 (List.map Starter.cells a2)), (17, .int .i64 (a2.length : Int)), (18, .int .i64 s107.2.2)]) (Hp := fun s107 => [.cells 33 (Course.cells s107.1), .map (menc (fun x => A.agg (categories_table.cells x)) A.bool s107.2.1)]) h105 ?_ ?_
    ·
      exact Le.ren [0, 1] rfl rfl (by decide) ⟨rfl, rfl, rfl, rfl, rfl, rfl, rfl, trivial⟩
    intro s107 d108 h109 hb106
    refine TC.seq ?_
    refine TC.region ?_
    refine vV (x := (.bool (decide (s107.2.2 < (a2.length : Int))))) (OpV.lss rfl rfl rfl) ?_
    refine WO.nil ?_
    refine seqN ?_
    refine TC.seq ?_
    refine TC.condS rfl (fun hc110 => ?_) (fun hc110 => ?_)
    · have h109 := ifF hc110 h109
      refine TC.exit ?_
      refine seqX ?_
      refine loopX h109 ?_
      obtain rfl := hb106 _ (Option.some.inj h109).symm
      refine bloE ?_
      refine cutN ?_
      exact Le.ren [1] rfl rfl (by decide) ⟨rfl, rfl, rfl, trivial⟩
    have h109 := ifT hc110 h109
    refine TC.skip ?_
    refine seqN ?_
    refine TC.seq ?_
    obtain ⟨b135, h136, h109⟩ := bnd h109
    refine TC.cut ([(2, .ptr 0 0), (4, .nils), (5, .nils), (6, .map 1), (16, .rsl 8 (List.map Starter.cells a2)), (17, .int .i64 (a2.length : Int)), (18, .int .i64 s107.2.2)]) ([.cells 33 (Course.cells b135.1), .map (menc (fun x => A.agg (categories_table.cells x)) A.bool b135.2)]) ?_ (fun env H hle => ?_)
    ·
      refine TC.block ?_
      refine TC.seq ?_
      refine TC.region ?_
      obtain ⟨x137, hx137, h136⟩ := bnd h136
      refine vV (x := (.rp [.int .i64 x137.Bib, .int .i64 x137.Distance, .int .i64 x137.Wave, .int .i64 x137.Slot, .int .i64 x137.Age, .int .i64 x137.Chip, .int .i64 x137.Team, .int .i64 x137.Lot])) (OpV.ixM (e := Starter.cells) (v := x137) hx137 Tryz.runUnderlying34 Tryz.sizeOf42) ?_
      refine vV (x := (.agg (Starter.cells x137))) (OpV.loadA rfl Tryz.isAgg42 Tryz.sizeOf42 rfl Pts.rp rfl rfl) ?_
      refine vH (OpH.allocZ (v := (.agg [.int .i64 0, .int .i64 0, .int .i64 0, .int .i64 0, .int .i64 0, .int .i64 0, .int .i64 0, .int .i64 0])) Tryz.zeroValue42 (ZR.agg (ZL.cons ZR.int (ZL.cons ZR.int (ZL.cons ZR.int (ZL.cons ZR.int (ZL.cons ZR.int (ZL.cons ZR.int (ZL.cons ZR.int (ZL.cons ZR.int ZL.nil)))))))))) ?_
      refine WO.atV (x := (.ptr 2 0)) (H := [.cells 33 (Course.cells s107.1), .map (menc (fun x => A.agg (categories_table.cells x)) A.bool s107.2.1), .cells 42 [.int .i64 0, .int .i64 0, .int .i64 0, .int .i64 0, .int .i64 0, .int .i64 0, .int .i64 0, .int .i64 0]]) rfl rfl ?_
      refine vU (OpU.store rfl rfl rfl Tryz.sizeOf42 rfl rfl rfl rfl rfl rfl rfl) ?_
      refine WO.atH (H := [.cells 33 (Course.cells s107.1), .map (menc (fun x => A.agg (categories_table.cells x)) A.bool s107.2.1), .cells 42 (Starter.cells x137)]) rfl ?_
      refine WO.nil ?_
      refine seqN ?_
      refine TC.seq ?_
      refine TC.seq ?_
      obtain ⟨b139, h140, h136⟩ := bnd h136
      refine TC.cut ([(2, .ptr 0 0), (4, .nils), (5, .nils), (6, .map 1), (8, .ptr 2 0), (16, .rsl 8 (List.map Starter.cells a2)), (17, .int .i64 (a2.length : Int)), (18, .int .i64 s107.2.2), (32, .bool b139.2.2)]) ([.cells 33 (Course.cells b139.1), .map (menc (fun x => A.agg (categories_table.cells x)) A.bool s107.2.1), .cells 42 (Starter.cells b139.2.1)]) ?_ (fun env H hle => ?_)
      ·
        refine TC.region ?_
        refine vV (x := (.ptr 2 1)) (OpV.fieldP fa_42_1 rfl rfl) ?_
        refine vV (x := (.int .i64 x137.Distance)) (OpV.load rfl Tryz.isAgg3 rfl (Pts.cells rfl rfl)) ?_
        refine vV (x := (.bool (decide (x137.Distance < 0)))) (OpV.lss rfl rfl rfl) ?_
        refine vV (x := (.bool (decide (x137.Distance < 0)))) (OpV.move rfl rfl) ?_
        rcases bTF (decide (x137.Distance < 0)) with hg141 | hg141
        · have h140 := ifT hg141 h140
          refine vS (gF hg141) ?_
          refine vS (gF hg141) ?_
          refine vS (gF hg141) ?_
          refine vS (gF hg141) ?_
          refine vS (gF hg141) ?_
          refine vS (gF hg141) ?_
          refine vV (x := (.bool true)) (OpV.pickT hg141) ?_
          refine WO.nil ?_
          obtain rfl := Option.some.inj h140
          refine cutN ?_
          exact Le.ren [0, 1, 2] rfl rfl (by decide) ⟨rfl, rfl, rfl, rfl, rfl, rfl, rfl, rfl, rfl, trivial⟩
        · have h140 := ifF hg141 h140
          refine vV (x := (.ptr 2 1)) (OpV.fieldP fa_42_1 rfl rfl) ?_ (gT hg141)
          refine vV (x := (.int .i64 x137.Distance)) (OpV.load rfl Tryz.isAgg3 rfl (Pts.cells rfl rfl)) ?_ (gT hg141)
          refine vV (x := (.ptr 0 3)) (OpV.fieldP fa_33_3 rfl rfl) ?_ (gT hg141)
          refine vV (x := (.rsl 5 (List.map Distance.cells s107.1.Distances))) (OpV.load rfl Tryz.isAgg24 rfl (Pts.cells rfl rfl)) ?_ (gT hg141)
          refine vV (x := (.int .i64 (s107.1.Distances.length : Int))) (OpV.lenM Tryz.runUnderlying24) ?_ (gT hg141)
          refine vV (x := (.bool (decide ((s107.1.Distances.length : Int) ≤ x137.Distance)))) (OpV.geq rfl rfl rfl) ?_ (gT hg141)
          refine vV (x := (.bool (decide ((s107.1.Distances.length : Int) ≤ x137.Distance)))) (OpV.pickF hg141) ?_
          refine WO.nil ?_
          obtain rfl := Option.some.inj h140
          refine cutN ?_
          exact Le.ren [0, 1, 2] rfl rfl (by decide) ⟨rfl, rfl, rfl, rfl, rfl, rfl, rfl, rfl, rfl, trivial⟩
      refine seqN (TC.le hle ?_)
      refine TC.cond rfl (fun hc142 => ?_) (fun hc142 => ?_)
      · have h136 := ifT hc142 h136
        refine TC.exit ?_
        refine seqX ?_
        refine bloE ?_
        obtain rfl := Option.some.inj h136
        refine cutN ?_
        exact Le.ren [0, 1] rfl rfl (by decide) ⟨rfl, rfl, rfl, rfl, rfl, rfl, rfl, trivial⟩
      have h136 := ifF hc142 h136
      refine TC.skip ?_
      refine seqN ?_
      refine TC.seq ?_
      refine TC.region ?_
      refine vV (x := (.agg (Course.cells b139.1))) (OpV.loadA rfl Tryz.isAgg33 Tryz.sizeOf33 rfl (Pts.cells rfl rfl) rfl rfl) ?_
      refine vV (x := (.agg (Starter.cells b139.2.1))) (OpV.loadA rfl Tryz.isAgg42 Tryz.sizeOf42 rfl (Pts.cells rfl rfl) rfl rfl) ?_
      obtain ⟨r143, hr143, h136⟩ := bnd h136
      refine WO.callD [] (OpC.fn Tryz.call12 rfl rfl rfl) (ok_categories_Of _ _ _ _ hr143) ?_
      rintro _ _ ⟨rfl, rfl⟩
      refine WO.atV (x := (.osl 3 0 r143.length 1)) (H := [.cells 33 (Course.cells b139.1), .map (menc (fun x => A.agg (categories_table.cells x)) A.bool s107.2.1), .cells 42 (Starter.cells b139.2.1), .row 3 1 (List.map (encI .i64) r143)]) rfl rfl ?_
      refine vH (OpH.lit (xs := [.const (.int .i64 (-1))]) (es := List.map (encI .i64) [(-1)]) el_39 rfl rfl rfl rfl rfl ⟨rfl, trivial⟩ rfl rfl) ?_
      refine WO.atV (x := (.osl 4 0 ([(-1)].length) 1)) (H := [.cells 33 (Course.cells b139.1), .map (menc (fun x => A.agg (categories_table.cells x)) A.bool s107.2.1), .cells 42 (Starter.cells b139.2.1), .row 3 1 (List.map (encI .i64) r143), .row 3 1 (List.map (encI .i64) [(-1)])]) rfl rfl ?_
      obtain ⟨l144, hl144, h136⟩ := bnd h136
      refine vH (OpH.appO (e := (encI .i64)) hl144 el_39 Tryz.runUnderlying39 (Src.oM (i := 4))) ?_
      refine WO.atV (x := (.osl 5 0 l144.length 1)) (H := [.cells 33 (Course.cells b139.1), .map (menc (fun x => A.agg (categories_table.cells x)) A.bool s107.2.1), .cells 42 (Starter.cells b139.2.1), .dead, .row 3 1 (List.map (encI .i64) [(-1)]), .row 3 1 (List.map (encI .i64) l144)]) rfl rfl ?_
      refine vV (x := (.int .i64 (l144.length : Int))) (OpV.lenOM Tryz.runUnderlying39) ?_
      refine vV (x := (.int .i64 0)) (OpV.move rfl rfl) ?_
      refine WO.nil ?_
      refine seqN ?_
      obtain ⟨b152, h153, h136⟩ := bnd h136
      refine TC.cut ([(2, .ptr 0 0), (4, .nils), (5, .nils), (6, .map 1), (16, .rsl 8 (List.map Starter.cells a2)), (17, .int .i64 (a2.length : Int)), (18, .int .i64 s107.2.2)]) ([.cells 33 (Course.cells b152.1), .map (menc (fun x => A.agg (categories_table.cells x)) A.bool b152.2)]) ?_ (fun env H hle => ?_)
      ·
        refine TC.block ?_
        refine TC.loop (E := fun s155 => [(2, .ptr 0 0), (4, .nils), (5, .nils), (6, .map 1), (8, .ptr 2 0), (16, .rsl 8 (List.map Starter.cells a2)), (17, .int .i64 (a2.length : Int)), (18, .int .i64 s107.2.2), (37, .osl 3 0 l144.length 1), (38, .int .i64 (l144.length : Int)), (39, .int .i64 s155.2.2.2)]) (Hp := fun s155 => [.cells 33 (Course.cells s155.1), .map (menc (fun x => A.agg (categories_table.cells x)) A.bool s155.2.1), .cells 42 (Starter.cells s155.2.2.1), .row 3 1 (List.map (encI .i64) l144)]) h153 ?_ ?_
        ·
          exact Le.ren [0, 1, 2, 5] rfl rfl (by decide) ⟨rfl, rfl, rfl, rfl, rfl, rfl, rfl, rfl, rfl, rfl, rfl, trivial⟩
        intro s155 d156 h157 hb154
        refine TC.seq ?_
        refine TC.region ?_
        refine vV (x := (.bool (decide (s155.2.2.2 < (l144.length : Int))))) (OpV.lss rfl rfl rfl) ?_
        refine WO.nil ?_
        refine seqN ?_
        refine TC.seq ?_
        refine TC.condS rfl (fun hc158 => ?_) (fun hc158 => ?_)
        · have h157 := ifF hc158 h157
          refine TC.exit ?_
          refine seqX ?_
          refine loopX h157 ?_
          obtain rfl := hb154 _ (Option.some.inj h157).symm
          refine bloE ?_
          refine cutN ?_
          exact Le.ren [0, 1] rfl rfl (by decide) ⟨rfl, rfl, rfl, rfl, rfl, rfl, rfl, trivial⟩
        have h157 := ifT hc158 h157
        refine TC.skip ?_
        refine seqN ?_
        refine TC.seq ?_
        refine TC.block ?_
        refine TC.seq ?_
        refine TC.region ?_
        obtain ⟨x159, hx159, h157⟩ := bnd h157
        refine vV (x := (.ptr 3 (Int.toNat s155.2.2.2 * 1))) (OpV.ixW hx159 rfl Tryz.runUnderlying39 Tryz.sizeOf3) ?_
        refine vV (x := (.int .i64 x159)) (OpV.load rfl Tryz.isAgg3 rfl (Pts.ofRow0 hx159)) ?_
        refine vV (x := (.int .i64 x159)) (OpV.assign rfl rfl) ?_
        refine WO.nil ?_
        refine seqN ?_
        refine TC.region ?_
        refine vV (x := (.map 1)) (OpV.move rfl rfl) ?_
        refine vV (x := (.ptr 2 1)) (OpV.fieldP fa_42_1 rfl rfl) ?_
        refine vV (x := (.int .i64 s155.2.2.1.Distance)) (OpV.load rfl Tryz.isAgg3 rfl (Pts.cells rfl rfl)) ?_
        refine vV (x := (.int .i64 x159)) (OpV.move rfl rfl) ?_
        refine vV (x := (.agg [.int .i64 s155.2.2.1.Distance, .int .i64 x159])) (OpV.build (zs := [.int .i64 0, .int .i64 0]) Tryz.zeroValue76 (ZR.agg (ZL.cons ZR.int (ZL.cons ZR.int ZL.nil))) pl_76) ?_
        obtain ⟨m160, hm160, h157⟩ := bnd h157
        refine vU (OpU.mput (ev := A.bool) (k := ({ distance := s155.2.2.1.Distance, category := x159 : categories_table })) (v := true) (l := s155.2.1) key_76 hm160 rfl Tryz.underlying74) ?_
        refine WO.atH (H := [.cells 33 (Course.cells s155.1), .map (menc (fun x => A.agg (categories_table.cells x)) A.bool m160), .cells 42 (Starter.cells s155.2.2.1), .row 3 1 (List.map (encI .i64) l144)]) rfl ?_
        refine WO.nil ?_
        refine bloN ?_
        refine seqN ?_
        refine TC.region ?_
        refine vV (x := (.int .i64 (IntKind.i64.wrap (s155.2.2.2 + 1)))) (OpV.add rfl rfl rfl) ?_
        refine vV (x := (.int .i64 (IntKind.i64.wrap (s155.2.2.2 + 1)))) (OpV.move rfl rfl) ?_
        refine WO.nil ?_
        refine loopN h157 ?_
        exact Le.ren [0, 1, 2, 3] rfl rfl (by decide) ⟨rfl, rfl, rfl, rfl, rfl, rfl, rfl, rfl, rfl, rfl, rfl, trivial⟩
      refine bloN ?_
      obtain rfl := Option.some.inj h136
      refine cutN ?_
      refine Le.trans hle ?_
      exact Le.ren [0, 1] rfl rfl (by decide) ⟨rfl, rfl, rfl, rfl, rfl, rfl, rfl, trivial⟩
    refine seqN (TC.le hle ?_)
    refine TC.region ?_
    refine vV (x := (.int .i64 (IntKind.i64.wrap (s107.2.2 + 1)))) (OpV.add rfl rfl rfl) ?_
    refine vV (x := (.int .i64 (IntKind.i64.wrap (s107.2.2 + 1)))) (OpV.move rfl rfl) ?_
    refine WO.nil ?_
    refine loopN h109 ?_
    exact Le.ren [0, 1] rfl rfl (by decide) ⟨rfl, rfl, rfl, rfl, rfl, rfl, rfl, trivial⟩
  refine seqN (TC.le hle ?_)
  refine TC.seq ?_
  refine TC.region ?_
  refine vV (x := .nils) (OpV.assign rfl rfl) ?_
  refine WO.nil ?_
  refine seqN ?_
  refine TC.seq ?_
  refine TC.seq ?_
  refine TC.region ?_
  refine vV (x := (.map 0)) (OpV.move rfl rfl) ?_
  refine vH (OpH.range Tryz.underlying74) ?_
  refine WO.atV (x := (.ptr 1 0)) (H := [.dead, .iter none (List.map (fun p => ((fun x => A.agg (categories_table.cells x)) p.1, A.bool p.2)) b104)]) rfl rfl ?_
  refine WO.nil ?_
  refine seqN ?_
  have h185 := anyP_ok h
  have h186 : AllP _ _ _ _ _ := fun p hp => bnd (h185 p hp)
  refine TC.cutG h186 (fun b182 => [(4, .nils), (5, .nils), (11, .osl 0 0 b182.length 2)]) (fun b182 => [.row 76 2 (List.map categories_table.cells b182)]) ?_ (fun b182 env H h183 hle => ?_)
  ·
    refine TC.block ?_
    refine TC.loopP (enc := (fun p => ((fun x => A.agg (categories_table.cells x)) p.1, A.bool p.2))) (fun s184 => [(4, .nils), (5, .nils), (11, .osl 0 0 s184.length 2), (51, .ptr 1 0)]) (fun s184 l187 => [.row 76 2 (List.map categories_table.cells s184), .iter none l187]) h186 ?_ ?_
    ·
      refine Le.trans (Le.phantom (s := 11) (k := 2) (t := 76) (Nat.le_of_ble_eq_true rfl) rfl) ?_
      exact Le.ren [2, 1] rfl rfl (by decide) ⟨rfl, rfl, rfl, rfl, trivial⟩
    intro s184 l187 h188
    refine TC.seq ?_
    refine TC.region ?_
    refine WO.nextP (enc := (fun p => ((fun x => A.agg (categories_table.cells x)) p.1, A.bool p.2))) h188 (fun b189 h190 h191 => ?_) (fun e192 l193 D194 h195 h196 h197 => ?_)
    ·
      refine vV (x := (.bool false)) (OpV.extract rfl rfl rfl) ?_
      refine WO.nil ?_
      refine seqN ?_
      refine TC.seq ?_
      refine TC.condF rfl rfl ?_
      refine TC.exit ?_
      refine seqX ?_
      refine mloopX ?_
      obtain rfl := Option.some.inj h190
      refine bloE ?_
      refine cutGN h191 ?_
      exact Le.ren [0] rfl rfl (by decide) ⟨rfl, rfl, rfl, trivial⟩
    refine WO.atV (x := (.tup [.bool true, .agg (categories_table.cells e192.1), .bool e192.2])) (H := [.row 76 2 (List.map categories_table.cells s184), .iter (some (.agg (categories_table.cells e192.1), .bool e192.2)) (List.map (fun p => ((fun x => A.agg (categories_table.cells x)) p.1, A.bool p.2)) l193)]) rfl rfl ?_
    refine vV (x := (.bool true)) (OpV.extract rfl rfl rfl) ?_
    refine WO.nil ?_
    refine seqN ?_
    refine TC.seq ?_
    refine TC.condT rfl rfl ?_
    refine TC.skip ?_
    refine seqN ?_
    refine TC.block ?_
    refine TC.seq ?_
    refine TC.region ?_
    refine vV (x := (.tup [.agg (categories_table.cells e192.1), .bool e192.2])) (OpV.entry (e := (.agg (categories_table.cells e192.1), .bool e192.2))) ?_
    refine vV (x := (.agg (categories_table.cells e192.1))) (OpV.extract rfl rfl rfl) ?_
    refine vH (OpH.allocZ (v := (.agg [.int .i64 0, .int .i64 0])) Tryz.zeroValue76 (ZR.agg (ZL.cons ZR.int (ZL.cons ZR.int ZL.nil)))) ?_
    refine WO.atV (x := (.ptr 2 0)) (H := [.row 76 2 (List.map categories_table.cells s184), .iter (some (.agg (categories_table.cells e192.1), .bool e192.2)) (List.map (fun p => ((fun x => A.agg (categories_table.cells x)) p.1, A.bool p.2)) l193), .cells 76 [.int .i64 0, .int .i64 0]]) rfl rfl ?_
    refine vU (OpU.store rfl rfl rfl Tryz.sizeOf76 rfl rfl rfl rfl rfl rfl rfl) ?_
    refine WO.atH (H := [.row 76 2 (List.map categories_table.cells s184), .iter (some (.agg (categories_table.cells e192.1), .bool e192.2)) (List.map (fun p => ((fun x => A.agg (categories_table.cells x)) p.1, A.bool p.2)) l193), .cells 76 (categories_table.cells e192.1)]) rfl ?_
    refine WO.nil ?_
    refine seqN ?_
    refine TC.region ?_
    refine vV (x := (.osl 0 0 s184.length 2)) (OpV.move rfl rfl) ?_
    refine vV (x := (.agg (categories_table.cells e192.1))) (OpV.loadA rfl Tryz.isAgg76 Tryz.sizeOf76 rfl (Pts.cells rfl rfl) rfl rfl) ?_
    refine vH (OpH.lit (xs := [.tmp 57]) (es := List.map categories_table.cells [e192.1]) el_77 rfl rfl rfl rfl rfl ⟨rfl, trivial⟩ rfl rfl) ?_
    refine WO.atV (x := (.osl 3 0 ([e192.1].length) 2)) (H := [.row 76 2 (List.map categories_table.cells s184), .iter (some (.agg (categories_table.cells e192.1), .bool e192.2)) (List.map (fun p => ((fun x => A.agg (categories_table.cells x)) p.1, A.bool p.2)) l193), .cells 76 (categories_table.cells e192.1), .row 76 2 (List.map categories_table.cells [e192.1])]) rfl rfl ?_
    obtain ⟨l198, hl198, h195⟩ := bnd h195
    refine vH (OpH.appO (e := categories_table.cells) hl198 el_77 Tryz.runUnderlying77 (Src.oM (i := 3))) ?_
    refine WO.atV (x := (.osl 4 0 l198.length 2)) (H := [.dead, .iter (some (.agg (categories_table.cells e192.1), .bool e192.2)) (List.map (fun p => ((fun x => A.agg (categories_table.cells x)) p.1, A.bool p.2)) l193), .cells 76 (categories_table.cells e192.1), .row 76 2 (List.map categories_table.cells [e192.1]), .row 76 2 (List.map categories_table.cells l198)]) rfl rfl ?_
    refine vV (x := (.osl 4 0 l198.length 2)) (OpV.assign rfl rfl) ?_
    refine WO.nil ?_
    refine bloN ?_
    refine mloopN _ _ h195 h197 ?_
    refine Le.trans (Le.forget (i := 1) (H' := [.dead, .iter none (List.map (fun p => ((fun x => A.agg (categories_table.cells x)) p.1, A.bool p.2)) l193), .cells 76 (categories_table.cells e192.1), .row 76 2 (List.map categories_table.cells [e192.1]), .row 76 2 (List.map categories_table.cells l198)]) rfl rfl) ?_
    exact Le.ren [4, 1] rfl rfl (by decide) ⟨rfl, rfl, rfl, rfl, trivial⟩
  refine seqN (TC.le hle ?_)
  refine TC.seq ?_
  refine TC.region ?_
  refine vV (x := (.osl 0 0 b182.length 2)) (OpV.move rfl rfl) ?_
  obtain ⟨l199, hl199, h183⟩ := bnd h183
  refine WO.callD [0] (OpC.fn Tryz.call33 rfl rfl rfl) (C.sortK (enc := categories_table.cells) lay_sortK_33 hl199 (fun x y c h => ok_categories_Tables_1 n x y c h) Tryz.isAgg76 Tryz.sizeOf76 Tryz.call34 (fun _ => rfl) rfl) ?_
  rintro _ _ ⟨rfl, rfl⟩
  refine WO.atV (x := .tup []) (H := [.row 76 2 (List.map categories_table.cells l199)]) rfl rfl ?_
  refine WO.le (Le.ov1 (s := 11) rfl (congrArg (fun n => A.osl 0 0 n 2) (sortF_len hl199))) ?_
  refine WO.le (Le.ov1 (s := 60) rfl (congrArg (fun n => A.osl 0 0 n 2) (sortF_len hl199))) ?_
  refine WO.nil ?_
  refine seqN ?_
  refine TC.seq ?_
  refine TC.seq ?_
  refine TC.region ?_
  refine vV (x := (.osl 0 0 l199.length 2)) (OpV.move rfl rfl) ?_
  refine vV (x := (.int .i64 (l199.length : Int))) (OpV.lenOM Tryz.runUnderlying77) ?_
  refine vV (x := (.int .i64 0)) (OpV.move rfl rfl) ?_
  refine WO.nil ?_
  refine seqN ?_
  obtain ⟨b209, h210, h183⟩ := bnd h183
  refine TC.cut ([(4, .osl 0 0 b209.1.length 1), (5, .osl 1 0 b209.2.length 1)]) ([.row 3 1 (List.map (encI .i64) b209.1), .row 3 1 (List.map (encI .i64) b209.2)]) ?_ (fun env H hle => ?_)
  ·
    refine TC.block ?_
    refine TC.loop (E := fun s212 => [(4, .osl 0 0 s212.1.length 1), (5, .osl 1 0 s212.2.1.length 1), (62, .osl 2 0 l199.length 2), (63, .int .i64 (l199.length : Int)), (64, .int .i64 s212.2.2)]) (Hp := fun s212 => [.row 3 1 (List.map (encI .i64) s212.1), .row 3 1 (List.map (encI .i64) s212.2.1), .row 76 2 (List.map categories_table.cells l199)]) h210 ?_ ?_
    ·
      refine Le.trans (Le.phantom (s := 4) (k := 1) (t := 3) (Nat.le_of_ble_eq_true rfl) rfl) ?_
      refine Le.trans (Le.phantom (s := 5) (k := 1) (t := 3) (Nat.le_of_ble_eq_true rfl) rfl) ?_
      exact Le.ren [1, 2, 0] rfl rfl (by decide) ⟨rfl, rfl, rfl, rfl, rfl, trivial⟩
    intro s212 d213 h214 hb211
    refine TC.seq ?_
    refine TC.region ?_
    refine vV (x := (.bool (decide (s212.2.2 < (l199.length : Int))))) (OpV.lss rfl rfl rfl) ?_
    refine WO.nil ?_
    refine seqN ?_
    refine TC.seq ?_
    refine TC.condS rfl (fun hc215 => ?_) (fun hc215 => ?_)
    · have h214 := ifF hc215 h214
      refine TC.exit ?_
      refine seqX ?_
      refine loopX h214 ?_
      obtain rfl := hb211 _ (Option.some.inj h214).symm
      refine bloE ?_
      refine cutN ?_
      exact Le.ren [0, 1] rfl rfl (by decide) ⟨rfl, rfl, trivial⟩
    have h214 := ifT hc215 h214
    refine TC.skip ?_
    refine seqN ?_
    refine TC.seq ?_
    refine TC.block ?_
    refine TC.seq ?_
    refine TC.region ?_
    obtain ⟨x216, hx216, h214⟩ := bnd h214
    refine vV (x := (.ptr 2 (Int.toNat s212.2.2 * 2))) (OpV.ixW hx216 rfl Tryz.runUnderlying77 Tryz.sizeOf76) ?_
    refine vV (x := (.agg (categories_table.cells x216))) (OpV.loadA rfl Tryz.isAgg76 Tryz.sizeOf76 rfl (Pts.ofRow0 hx216) rfl rfl) ?_
    refine vH (OpH.allocZ (v := (.agg [.int .i64 0, .int .i64 0])) Tryz.zeroValue76 (ZR.agg (ZL.cons ZR.int (ZL.cons ZR.int ZL.nil)))) ?_
    refine WO.atV (x := (.ptr 3 0)) (H := [.row 3 1 (List.map (encI .i64) s212.1), .row 3 1 (List.map (encI .i64) s212.2.1), .row 76 2 (List.map categories_table.cells l199), .cells 76 [.int .i64 0, .int .i64 0]]) rfl rfl ?_
    refine vU (OpU.store rfl rfl rfl Tryz.sizeOf76 rfl rfl rfl rfl rfl rfl rfl) ?_
    refine WO.atH (H := [.row 3 1 (List.map (encI .i64) s212.1), .row 3 1 (List.map (encI .i64) s212.2.1), .row 76 2 (List.map categories_table.cells l199), .cells 76 (categories_table.cells x216)]) rfl ?_
    refine WO.nil ?_
    refine seqN ?_
    obtain ⟨l217, hl217, h214⟩ := bnd h214
    refine TC.draw 9 1 [68, 69, 70, 71, 72, 73, 74, 75, 76] [0, 0, 0, 0, 0, 0, 0, 0, 0] [false, false, false, false, true, false, false, false, false] [.osl 0 0 s212.1.length 1, .ptr 3 0, .int .i64 x216.distance, .rsl 1 (List.map (encI .i64) [x216.distance]), .osl 4 0 l217.length 1, .osl 1 0 s212.2.1.length 1, .ptr 3 1, .int .i64 x216.category, .rsl 1 (List.map (encI .i64) [x216.category])] [[.row 3 1 (List.map (encI .i64) s212.1), .row 3 1 (List.map (encI .i64) s212.2.1), .row 76 2 (List.map categories_table.cells l199), .cells 76 (categories_table.cells x216)], [.dead, .row 3 1 (List.map (encI .i64) s212.2.1), .row 76 2 (List.map categories_table.cells l199), .cells 76 (categories_table.cells x216), .row 3 1 (List.map (encI .i64) l217)]] ([.dead, .row 3 1 (List.map (encI .i64) s212.2.1), .row 76 2 (List.map categories_table.cells l199), .cells 76 (categories_table.cells x216), .row 3 1 (List.map (encI .i64) l217)]) draws rfl rfl rfl rfl rfl rfl rfl rfl ?_ ?_
    · refine OblL.cons ?_ (OblL.cons ?_ (OblL.cons ?_ (OblL.cons ?_ (OblL.cons ?_ (OblL.cons ?_ (OblL.cons ?_ (OblL.cons ?_ (OblL.cons ?_ (OblL.nil)))))))))
      · refine OblL.stC ?_ (OblL.stC ?_ (OblL.st0))
        · refine OblAt.mk _ [(4, .osl 0 0 s212.1.length 1)] 68 (.osl 0 0 s212.1.length 1) rfl rfl rfl (SubE.old rfl rfl SubE.nil) ?_
          refine vV (x := (.osl 0 0 s212.1.length 1)) (OpV.move rfl rfl) ?_
          exact WO.nil Post1.mk
        · refine OblAt.mk _ [(4, .osl 0 0 s212.1.length 1)] 68 (.osl 0 0 s212.1.length 1) rfl rfl rfl (SubE.old rfl rfl SubE.nil) ?_
          refine vV (x := (.osl 0 0 s212.1.length 1)) (OpV.move rfl rfl) ?_
          exact WO.nil Post1.mk
      · refine OblL.stC ?_ (OblL.stC ?_ (OblL.st0))
        · refine OblAt.mk _ [(14, .ptr 3 0)] 69 (.ptr 3 0) rfl rfl rfl (SubE.old rfl rfl SubE.nil) ?_
          refine vV (x := (.ptr 3 0)) (OpV.fieldP fa_76_0 rfl rfl) ?_
          exact WO.nil Post1.mk
        · refine OblAt.mk _ [(14, .ptr 3 0)] 69 (.ptr 3 0) rfl rfl rfl (SubE.old rfl rfl SubE.nil) ?_
          refine vV (x := (.ptr 3 0)) (OpV.fieldP fa_76_0 rfl rfl) ?_
          exact WO.nil Post1.mk
      · refine OblL.stC ?_ (OblL.stC ?_ (OblL.st0))
        · refine OblAt.mk _ [(69, .ptr 3 0)] 70 (.int .i64 x216.distance) rfl rfl rfl (SubE.dep 1 rfl rfl rfl SubE.nil) ?_
          refine vV (x := (.int .i64 x216.distance)) (OpV.load rfl Tryz.isAgg3 rfl (Pts.cells rfl rfl)) ?_
          exact WO.nil Post1.mk
        · refine OblAt.mk _ [(69, .ptr 3 0)] 70 (.int .i64 x216.distance) rfl rfl rfl (SubE.dep 1 rfl rfl rfl SubE.nil) ?_
          refine vV (x := (.int .i64 x216.distance)) (OpV.load rfl Tryz.isAgg3 rfl (Pts.cells rfl rfl)) ?_
          exact WO.nil Post1.mk
      · refine OblL.stC ?_ (OblL.stC ?_ (OblL.st0))
        · refine OblAt.mk _ [(70, .int .i64 x216.distance)] 71 (.rsl 1 (List.map (encI .i64) [x216.distance])) rfl rfl rfl (SubE.dep 2 rfl rfl rfl SubE.nil) ?_
          refine vH (OpH.litR (xs := [.tmp 70]) (es := List.map (encI .i64) [x216.distance]) el_39 rfl rfl rfl rfl rfl ⟨rfl, trivial⟩ rfl rfl) ?_
          refine WO.atV (x := (.rsl 1 (List.map (encI .i64) [x216.distance]))) (H := [.row 3 1 (List.map (encI .i64) s212.1), .row 3 1 (List.map (encI .i64) s212.2.1), .row 76 2 (List.map categories_table.cells l199), .cells 76 (categories_table.cells x216)]) rfl rfl ?_
          exact WO.nil Post1.mk
        · refine OblAt.mk _ [(70, .int .i64 x216.distance)] 71 (.rsl 1 (List.map (encI .i64) [x216.distance])) rfl rfl rfl (SubE.dep 2 rfl rfl rfl SubE.nil) ?_
          refine vH (OpH.litR (xs := [.tmp 70]) (es := List.map (encI .i64) [x216.distance]) el_39 rfl rfl rfl rfl rfl ⟨rfl, trivial⟩ rfl rfl) ?_
          refine WO.atV (x := (.rsl 1 (List.map (encI .i64) [x216.distance]))) (H := [.dead, .row 3 1 (List.map (encI .i64) s212.2.1), .row 76 2 (List.map categories_table.cells l199), .cells 76 (categories_table.cells x216), .row 3 1 (List.map (encI .i64) l217)]) rfl rfl ?_
          exact WO.nil Post1.mk
      · refine OblL.stC ?_ (OblL.st0)
        · refine OblAt.mk _ [(68, .osl 0 0 s212.1.length 1), (71, .rsl 1 (List.map (encI .i64) [x216.distance]))] 72 (.osl 4 0 l217.length 1) rfl rfl rfl (SubE.dep 0 rfl rfl rfl (SubE.dep 3 rfl rfl rfl SubE.nil)) ?_
          refine vH (OpH.appO (e := (encI .i64)) hl217 el_39 Tryz.runUnderlying39 Src.rM) ?_
          refine WO.atV (x := (.osl 4 0 l217.length 1)) (H := [.dead, .row 3 1 (List.map (encI .i64) s212.2.1), .row 76 2 (List.map categories_table.cells l199), .cells 76 (categories_table.cells x216), .row 3 1 (List.map (encI .i64) l217)]) rfl rfl ?_
          exact WO.nil Post1.mk
      · refine OblL.stC ?_ (OblL.stC ?_ (OblL.st0))
        · refine OblAt.mk _ [(5, .osl 1 0 s212.2.1.length 1)] 73 (.osl 1 0 s212.2.1.length 1) rfl rfl rfl (SubE.old rfl rfl SubE.nil) ?_
          refine vV (x := (.osl 1 0 s212.2.1.length 1)) (OpV.move rfl rfl) ?_
          exact WO.nil Post1.mk
        · refine OblAt.mk _ [(5, .osl 1 0 s212.2.1.length 1)] 73 (.osl 1 0 s212.2.1.length 1) rfl rfl rfl (SubE.old rfl rfl SubE.nil) ?_
          refine vV (x := (.osl 1 0 s212.2.1.length 1)) (OpV.move rfl rfl) ?_
          exact WO.nil Post1.mk
      · refine OblL.stC ?_ (OblL.stC ?_ (OblL.st0))
        · refine OblAt.mk _ [(14, .ptr 3 0)] 74 (.ptr 3 1) rfl rfl rfl (SubE.old rfl rfl SubE.nil) ?_
          refine vV (x := (.ptr 3 1)) (OpV.fieldP fa_76_1 rfl rfl) ?_
          exact WO.nil Post1.mk
        · refine OblAt.mk _ [(14, .ptr 3 0)] 74 (.ptr 3 1) rfl rfl rfl (SubE.old rfl rfl SubE.nil) ?_
          refine vV (x := (.ptr 3 1)) (OpV.fieldP fa_76_1 rfl rfl) ?_
          exact WO.nil Post1.mk
      · refine OblL.stC ?_ (OblL.stC ?_ (OblL.st0))
        · refine OblAt.mk _ [(74, .ptr 3 1)] 75 (.int .i64 x216.category) rfl rfl rfl (SubE.dep 6 rfl rfl rfl SubE.nil) ?_
          refine vV (x := (.int .i64 x216.category)) (OpV.load rfl Tryz.isAgg3 rfl (Pts.cells rfl rfl)) ?_
          exact WO.nil Post1.mk
        · refine OblAt.mk _ [(74, .ptr 3 1)] 75 (.int .i64 x216.category) rfl rfl rfl (SubE.dep 6 rfl rfl rfl SubE.nil) ?_
          refine vV (x := (.int .i64 x216.category)) (OpV.load rfl Tryz.isAgg3 rfl (Pts.cells rfl rfl)) ?_
          exact WO.nil Post1.mk
      · refine OblL.stC ?_ (OblL.stC ?_ (OblL.st0))
        · refine OblAt.mk _ [(75, .int .i64 x216.category)] 76 (.rsl 1 (List.map (encI .i64) [x216.category])) rfl rfl rfl (SubE.dep 7 rfl rfl rfl SubE.nil) ?_
          refine vH (OpH.litR (xs := [.tmp 75]) (es := List.map (encI .i64) [x216.category]) el_39 rfl rfl rfl rfl rfl ⟨rfl, trivial⟩ rfl rfl) ?_
          refine WO.atV (x := (.rsl 1 (List.map (encI .i64) [x216.category]))) (H := [.row 3 1 (List.map (encI .i64) s212.1), .row 3 1 (List.map (encI .i64) s212.2.1), .row 76 2 (List.map categories_table.cells l199), .cells 76 (categories_table.cells x216)]) rfl rfl ?_
          exact WO.nil Post1.mk
        · refine OblAt.mk _ [(75, .int .i64 x216.category)] 76 (.rsl 1 (List.map (encI .i64) [x216.category])) rfl rfl rfl (SubE.dep 7 rfl rfl rfl SubE.nil) ?_
          refine vH (OpH.litR (xs := [.tmp 75]) (es := List.map (encI .i64) [x216.category]) el_39 rfl rfl rfl rfl rfl ⟨rfl, trivial⟩ rfl rfl) ?_
          refine WO.atV (x := (.rsl 1 (List.map (encI .i64) [x216.category]))) (H := [.dead, .row 3 1 (List.map (encI .i64) s212.2.1), .row 76 2 (List.map categories_table.cells l199), .cells 76 (categories_table.cells x216), .row 3 1 (List.map (encI .i64) l217)]) rfl rfl ?_
          exact WO.nil Post1.mk
    obtain ⟨l218, hl218, h214⟩ := bnd h214
    refine vH (OpH.appO (e := (encI .i64)) hl218 el_39 Tryz.runUnderlying39 Src.rM) ?_
    refine WO.atV (x := (.osl 5 0 l218.length 1)) (H := [.dead, .dead, .row 76 2 (List.map categories_table.cells l199), .cells 76 (categories_table.cells x216), .row 3 1 (List.map (encI .i64) l217), .row 3 1 (List.map (encI .i64) l218)]) rfl rfl ?_
    refine vV (x := (.osl 4 0 l217.length 1)) (OpV.assign rfl rfl) ?_
    refine vV (x := (.osl 5 0 l218.length 1)) (OpV.assign rfl rfl) ?_
    refine WO.nil ?_
    refine bloN ?_
    refine seqN ?_
    refine TC.region ?_
    refine vV (x := (.int .i64 (IntKind.i64.wrap (s212.2.2 + 1)))) (OpV.add rfl rfl rfl) ?_
    refine vV (x := (.int .i64 (IntKind.i64.wrap (s212.2.2 + 1)))) (OpV.move rfl rfl) ?_
    refine WO.nil ?_
    refine loopN h214 ?_
    exact Le.ren [4, 5, 2] rfl rfl (by decide) ⟨rfl, rfl, rfl, rfl, rfl, trivial⟩
  refine seqN (TC.le hle ?_)
  refine TC.seq ?_
  refine TC.region ?_
  refine vV (x := (.osl 0 0 b209.1.length 1)) (OpV.move rfl rfl) ?_
  refine vV (x := (.osl 1 0 b209.2.length 1)) (OpV.move rfl rfl) ?_
  refine vV (x := (.osl 0 0 b209.1.length 1)) (OpV.assign rfl rfl) ?_
  refine vV (x := (.osl 1 0 b209.2.length 1)) (OpV.assign rfl rfl) ?_
  refine WO.nil ?_
  refine seqN ?_
  refine TC.ret ?_
  obtain rfl := Option.some.inj h183
  refine ⟨[(4, .osl 0 0 (((b209.1, b209.2).1).length) 1), (5, .osl 1 0 (((b209.1, b209.2).2).length) 1)], [.row 3 1 (List.map (encI .i64) ((b209.1, b209.2).1)), .row 3 1 (List.map (encI .i64) ((b209.1, b209.2).2))], _, ?_, ResOK.two rfl rfl rfl, rfl, rfl⟩
  exact Le.ren [0, 1] rfl rfl (by decide) ⟨rfl, rfl, trivial⟩

/- stopwatch/typing.depth -/
def F_typing_depth_L1 (n : Nat) (a1 : List Part) (a2 : Int) (rec14 : (List Part) → Int → Option (Int × Int)) (s47 : Int × Int × Int) : Option (Ctl (Int × Int × Int) (Int × Int)) :=
  (bif decide (s47.2.2 < (a1.length : Int)) then ((idx a1 s47.2.2).bind fun x62 => ((bif ((x62.Parts.length : Int) == 0) then some (x62, true) else (bif (a2 == 0) then some (x62, true) else some (x62, decide (256 < s47.2.1)))) : Option (Part × Bool)).bind fun b65 => (bif b65.2 then some (s47.1, s47.2.1) else (rec14 b65.1.Parts (IntKind.i64.wrap (a2 - 1))).bind fun r70 => some ((if s47.1 < IntKind.i64.wrap (r70.1 + 1) then IntKind.i64.wrap (r70.1 + 1) else s47.1), IntKind.i64.wrap (s47.2.1 + r70.2))) : Option (Int × Int)).bind fun b60 => some (.cont (b60.1, b60.2, IntKind.i64.wrap (s47.2.2 + 1))) else some (.done (s47.1, s47.2.1)))
def B_typing_depth (rec14 : (List Part) → Int → Option (Int × Int)) (n : Nat) (a1 : List Part) (a2 : Int) : Option (Int × Int) :=
  (iter (F_typing_depth_L1 n a1 a2 rec14) n (0, (a1.length : Int), 0) : Option (Int × Int)).bind fun b44 => some (b44.1, b44.2)
theorem okB_typing_depth (rec14 : (List Part) → Int → Option (Int × Int)) (hrec14 : ∀ (a1 : List Part) (a2 : Int) (r : Int × Int), rec14 a1 a2 = some r → C Tryz.prog 73 [.rsl 3 (List.map Part.enc a1), .int .i64 a2] [] (fun a H => a = .tup [.int .i64 r.1, .int .i64 r.2] ∧ H = [])) (n : Nat) (a1 : List Part) (a2 : Int) (r : Int × Int) (h : B_typing_depth rec14 n a1 a2 = some r) :
    C Tryz.prog 73 [.rsl 3 (List.map Part.enc a1), .int .i64 a2] [] (fun a H => a = .tup [.int .i64 r.1, .int .i64 r.2] ∧ H = []) := by
  refine C.of_body Tryz.func73 rfl rfl rfl ?_
  refine TC.seq ?_
  refine TC.region ?_
  refine vV (x := (.int .i64 0)) (OpV.assign rfl rfl) ?_
  refine vV (x := (.int .i64 0)) (OpV.assign rfl rfl) ?_
  refine WO.nil ?_
  refine seqN ?_
  refine TC.seq ?_
  refine TC.region ?_
  refine vV (x := (.rsl 3 (List.map Part.enc a1))) (OpV.move rfl rfl) ?_
  refine vV (x := (.int .i64 (a1.length : Int))) (OpV.lenM Tryz.runUnderlying59) ?_
  refine vV (x := (.int .i64 (a1.length : Int))) (OpV.assign rfl rfl) ?_
  refine WO.nil ?_
  refine seqN ?_
  refine TC.seq ?_
  refine TC.seq ?_
  refine TC.region ?_
  refine vV (x := (.rsl 3 (List.map Part.enc a1))) (OpV.move rfl rfl) ?_
  refine vV (x := (.int .i64 (a1.length : Int))) (OpV.lenM Tryz.runUnderlying59) ?_
  refine vV (x := (.int .i64 0)) (OpV.move rfl rfl) ?_
  refine WO.nil ?_
  refine seqN ?_
  obtain ⟨b44, h45, h⟩ := bnd h
  refine TC.cut ([(4, .int .i64 b44.1), (5, .int .i64 b44.2)]) ([]) ?_ (fun env H hle => ?_)
  ·
    refine TC.block ?_
    refine TC.loop (E := fun s47 => [(1, .int .i64 a2), (4, .int .i64 s47.1), (5, .int .i64 s47.2.1), (12, .rsl 3 (List.map Part.enc a1)), (13, .int .i64 (a1.length : Int)), (14, .int .i64 s47.2.2)]) (Hp := fun s47 => []) h45 ?_ ?_
    ·
      exact Le.ren [] rfl rfl (by decide) ⟨rfl, rfl, rfl, rfl, rfl, rfl, trivial⟩
    intro s47 d48 h49 hb46
    refine TC.seq ?_
    refine TC.region ?_
    refine vV (x := (.bool (decide (s47.2.2 < (a1.length : Int))))) (OpV.lss rfl rfl rfl) ?_
    refine WO.nil ?_
    refine seqN ?_
    refine TC.seq ?_
    refine TC.condS rfl (fun hc50 => ?_) (fun hc50 => ?_)
    · have h49 := ifF hc50 h49
      refine TC.exit ?_
      refine seqX ?_
      refine loopX h49 ?_
      obtain rfl := hb46 _ (Option.some.inj h49).symm
      refine bloE ?_
      refine cutN ?_
      exact Le.ren [] rfl rfl (by decide) ⟨rfl, rfl, trivial⟩
    have h49 := ifT hc50 h49
    refine TC.skip ?_
    refine seqN ?_
    refine TC.seq ?_
    obtain ⟨b60, h61, h49⟩ := bnd h49
    refine TC.cut ([(1, .int .i64 a2), (4, .int .i64 b60.1), (5, .int .i64 b60.2), (12, .rsl 3 (List.map Part.enc a1)), (13, .int .i64 (a1.length : Int)), (14, .int .i64 s47.2.2)]) ([]) ?_ (fun env H hle => ?_)
    ·
      refine TC.block ?_
      refine TC.seq ?_
      refine TC.region ?_
      obtain ⟨x62, hx62, h61⟩ := bnd h61
      refine vV (x := (.rp [.int .i64 x62.Mat, .int .i64 x62.Laps, .rsl 3 (List.map Part.enc x62.Parts)])) (OpV.ixME (e := Part.enc) hx62 (Part.enc_eq x62) Tryz.runUnderlying59 Tryz.sizeOf85) ?_
      refine vV (x := (.agg (Part.cells x62))) (OpV.loadA rfl Tryz.isAgg85 Tryz.sizeOf85 rfl Pts.rp rfl rfl) ?_
      refine vH (OpH.allocZ (v := (.agg [.int .i64 0, .int .i64 0, .rsl 3 (List.map Part.enc [])])) Tryz.zeroValue85 (ZR.agg (ZL.cons ZR.int (ZL.cons ZR.int (ZL.cons ZR.rsl ZL.nil))))) ?_
      refine WO.atV (x := (.ptr 0 0)) (H := [.cells 85 [.int .i64 0, .int .i64 0, .rsl 3 (List.map Part.enc [])]]) rfl rfl ?_
      refine vU (OpU.store rfl rfl rfl Tryz.sizeOf85 rfl rfl rfl rfl rfl rfl rfl) ?_
      refine WO.atH (H := [.cells 85 (Part.cells x62)]) rfl ?_
      refine WO.nil ?_
      refine seqN ?_
      refine TC.seq ?_
      refine TC.seq ?_
      obtain ⟨b65, h66, h61⟩ := bnd h61
      refine TC.cut ([(1, .int .i64 a2), (4, .int .i64 s47.1), (5, .int .i64 s47.2.1), (7, .ptr 0 0), (12, .rsl 3 (List.map Part.enc a1)), (13, .int .i64 (a1.length : Int)), (14, .int .i64 s47.2.2), (29, .bool b65.2)]) ([.cells 85 (Part.cells b65.1)]) ?_ (fun env H hle => ?_)
      ·
        refine TC.region ?_
        refine vV (x := (.ptr 0 2)) (OpV.fieldP fa_85_2 rfl rfl) ?_
        refine vV (x := (.rsl 3 (List.map Part.enc x62.Parts))) (OpV.load rfl Tryz.isAgg59 rfl (Pts.cells rfl rfl)) ?_
        refine vV (x := (.int .i64 (x62.Parts.length : Int))) (OpV.lenM Tryz.runUnderlying59) ?_
        refine vV (x := (.bool ((x62.Parts.length : Int) == 0))) (OpV.eql rfl rfl rfl) ?_
        refine vV (x := (.bool ((x62.Parts.length : Int) == 0))) (OpV.move rfl rfl) ?_
        rcases bTF (((x62.Parts.length : Int) == 0)) with hg67 | hg67
        · have h66 := ifT hg67 h66
          refine vS (gF hg67) ?_
          refine vS (gF hg67) ?_
          refine vV (x := (.bool true)) (OpV.pickT hg67) ?_
          refine vV (x := (.bool true)) (OpV.move rfl rfl) ?_
          refine vS (gF rfl) ?_
          refine vS (gF rfl) ?_
          refine vV (x := (.bool true)) (OpV.pickT rfl) ?_
          refine WO.nil ?_
          obtain rfl := Option.some.inj h66
          refine cutN ?_
          exact Le.ren [0] rfl rfl (by decide) ⟨rfl, rfl, rfl, rfl, rfl, rfl, rfl, rfl, trivial⟩
        · have h66 := ifF hg67 h66
          refine vV (x := (.int .i64 a2)) (OpV.move rfl rfl) ?_ (gT hg67)
          refine vV (x := (.bool (a2 == 0))) (OpV.eql rfl rfl rfl) ?_ (gT hg67)
          refine vV (x := (.bool (a2 == 0))) (OpV.pickF hg67) ?_
          refine vV (x := (.bool (a2 == 0))) (OpV.move rfl rfl) ?_
          rcases bTF ((a2 == 0)) with hg68 | hg68
          · have h66 := ifT hg68 h66
            refine vS (gF hg68) ?_
            refine vS (gF hg68) ?_
            refine vV (x := (.bool true)) (OpV.pickT hg68) ?_
            refine WO.nil ?_
            obtain rfl := Option.some.inj h66
            refine cutN ?_
            exact Le.ren [0] rfl rfl (by decide) ⟨rfl, rfl, rfl, rfl, rfl, rfl, rfl, rfl, trivial⟩
          · have h66 := ifF hg68 h66
            refine vV (x := (.int .i64 s47.2.1)) (OpV.move rfl rfl) ?_ (gT hg68)
            refine vV (x := (.bool (decide (256 < s47.2.1)))) (OpV.gtr rfl rfl rfl) ?_ (gT hg68)
            refine vV (x := (.bool (decide (256 < s47.2.1)))) (OpV.pickF hg68) ?_
            refine WO.nil ?_
            obtain rfl := Option.some.inj h66
            refine cutN ?_
            exact Le.ren [0] rfl rfl (by decide) ⟨rfl, rfl, rfl, rfl, rfl, rfl, rfl, rfl, trivial⟩
      refine seqN (TC.le hle ?_)
      refine TC.cond rfl (fun hc69 => ?_) (fun hc69 => ?_)
      · have h61 := ifT hc69 h61
        refine TC.exit ?_
        refine seqX ?_
        refine bloE ?_
        obtain rfl := Option.some.inj h61
        refine cutN ?_
        exact Le.ren [] rfl rfl (by decide) ⟨rfl, rfl, rfl, rfl, rfl, rfl, trivial⟩
      have h61 := ifF hc69 h61
      refine TC.skip ?_
      refine seqN ?_
      refine TC.seq ?_
      refine TC.region ?_
      refine vV (x := (.ptr 0 2)) (OpV.fieldP fa_85_2 rfl rfl) ?_
      refine vV (x := (.rsl 3 (List.map Part.enc b65.1.Parts))) (OpV.load rfl Tryz.isAgg59 rfl (Pts.cells rfl rfl)) ?_
      refine vV (x := (.int .i64 a2)) (OpV.move rfl rfl) ?_
      refine vV (x := (.int .i64 (IntKind.i64.wrap (a2 - 1)))) (OpV.sub rfl rfl rfl) ?_
      obtain ⟨r70, hr70, h61⟩ := bnd h61
      refine WO.callD [] (OpC.fn Tryz.call73 rfl rfl rfl) (hrec14 _ _ _ hr70) ?_
      rintro _ _ ⟨rfl, rfl⟩
      refine WO.atV (x := (.tup [.int .i64 r70.1, .int .i64 r70.2])) (H := [.cells 85 (Part.cells b65.1)]) rfl rfl ?_
      refine vV (x := (.tup [.int .i64 r70.1, .int .i64 r70.2])) (OpV.move rfl rfl) ?_
      refine vV (x := (.int .i64 r70.1)) (OpV.extract rfl rfl rfl) ?_
      refine vV (x := (.int .i64 r70.2)) (OpV.extract rfl rfl rfl) ?_
      refine vV (x := (.int .i64 r70.1)) (OpV.assign rfl rfl) ?_
      refine vV (x := (.int .i64 r70.2)) (OpV.assign rfl rfl) ?_
      refine WO.nil ?_
      refine seqN ?_
      refine TC.region ?_
      refine vV (x := (.int .i64 s47.1)) (OpV.move rfl rfl) ?_
      refine vV (x := (.int .i64 r70.1)) (OpV.move rfl rfl) ?_
      refine vV (x := (.int .i64 (IntKind.i64.wrap (r70.1 + 1)))) (OpV.add rfl rfl rfl) ?_
      refine vV (x := (.int .i64 (if s47.1 < IntKind.i64.wrap (r70.1 + 1) then IntKind.i64.wrap (r70.1 + 1) else s47.1))) (OpV.max rfl rfl rfl rfl) ?_
      refine vV (x := (.int .i64 s47.2.1)) (OpV.move rfl rfl) ?_
      refine vV (x := (.int .i64 r70.2)) (OpV.move rfl rfl) ?_
      refine vV (x := (.int .i64 (IntKind.i64.wrap (s47.2.1 + r70.2)))) (OpV.add rfl rfl rfl) ?_
      refine vV (x := (.int .i64 (if s47.1 < IntKind.i64.wrap (r70.1 + 1) then IntKind.i64.wrap (r70.1 + 1) else s47.1))) (OpV.assign rfl rfl) ?_
      refine vV (x := (.int .i64 (IntKind.i64.wrap (s47.2.1 + r70.2)))) (OpV.assign rfl rfl) ?_
      refine WO.nil ?_
      refine bloN ?_
      obtain rfl := Option.some.inj h61
      refine cutN ?_
      exact Le.ren [] rfl rfl (by decide) ⟨rfl, rfl, rfl, rfl, rfl, rfl, trivial⟩
    refine seqN (TC.le hle ?_)
    refine TC.region ?_
    refine vV (x := (.int .i64 (IntKind.i64.wrap (s47.2.2 + 1)))) (OpV.add rfl rfl rfl) ?_
    refine vV (x := (.int .i64 (IntKind.i64.wrap (s47.2.2 + 1)))) (OpV.move rfl rfl) ?_
    refine WO.nil ?_
    refine loopN h49 ?_
    exact Le.ren [] rfl rfl (by decide) ⟨rfl, rfl, rfl, rfl, rfl, rfl, trivial⟩
  refine seqN (TC.le hle ?_)
  refine TC.seq ?_
  refine TC.region ?_
  refine vV (x := (.int .i64 b44.1)) (OpV.move rfl rfl) ?_
  refine vV (x := (.int .i64 b44.2)) (OpV.move rfl rfl) ?_
  refine vV (x := (.int .i64 b44.1)) (OpV.assign rfl rfl) ?_
  refine vV (x := (.int .i64 b44.2)) (OpV.assign rfl rfl) ?_
  refine WO.nil ?_
  refine seqN ?_
  refine TC.ret ?_
  obtain rfl := Option.some.inj h
  refine ⟨[(4, .int .i64 ((b44.1, b44.2).1)), (5, .int .i64 ((b44.1, b44.2).2))], [], _, ?_, ResOK.two rfl rfl rfl, rfl, rfl⟩
  exact Le.ren [] rfl rfl (by decide) ⟨rfl, rfl, trivial⟩
def F_typing_depth : Nat → (List Part) → Int → Option (Int × Int)
  | 0 => fun _ _ => none
  | n + 1 => B_typing_depth (F_typing_depth n) n
theorem ok_typing_depth (n : Nat) : ∀ (a1 : List Part) (a2 : Int) (r : Int × Int), F_typing_depth n a1 a2 = some r → C Tryz.prog 73 [.rsl 3 (List.map Part.enc a1), .int .i64 a2] [] (fun a H => a = .tup [.int .i64 r.1, .int .i64 r.2] ∧ H = []) := by
  induction n with
  | zero => intro a1 a2 r h; cases h
  | succ n ih => intro a1 a2 r h; exact okB_typing_depth _ ih n a1 a2 r h

/- stopwatch/typing.fits -/
def F_typing_fits_L1 (n : Nat) (b7 : Course × Bool) (s40 : Int) : Option (Ctl Int (Ctl Unit Bool)) :=
  (bif decide (s40 < (b7.1.Distances.length : Int)) then (idx b7.1.Distances s40).bind fun x44 => (F_typing_depth n x44.Route 17).bind fun r45 => ((bif decide (64 < (x44.Cutoffs.length : Int)) then some true else (bif decide (16 < r45.1) then some true else some (decide (256 < r45.2)))) : Option Bool).bind fun b48 => (bif b48 then some (.done (.done false)) else some (.cont (IntKind.i64.wrap (s40 + 1)))) else some (.done (.cont ())))
def F_typing_fits (n : Nat) (a1 : Course) : Option Bool :=
  ((bif decide (40 < (a1.Mats.length : Int)) then some (a1, true) else (bif decide (512 < (a1.Legs.length : Int)) then some (a1, true) else (bif decide (8 < (a1.Distances.length : Int)) then some (a1, true) else (bif decide (32 < (a1.Waves.length : Int)) then some (a1, true) else (bif decide (32 < (a1.Offences.length : Int)) then some (a1, true) else (bif decide (32 < (a1.Categories.length : Int)) then some (a1, true) else some (a1, decide (32 < (a1.Prizes.length : Int))))))))) : Option (Course × Bool)).bind fun b7 => (bif b7.2 then some false else (iter (F_typing_fits_L1 n b7) n 0 : Option (Ctl Unit Bool)).bind fun b37 => match b37 with | .cont sb37 => (some true) | .done sb37 => some sb37)
theorem ok_typing_fits (n : Nat) (a1 : Course) (r : Bool) (h : F_typing_fits n a1 = some r) :
    C Tryz.prog 43 [.agg (Course.cells a1)] [] (fun a H => a = .bool r ∧ H = []) := by
  refine C.of_body Tryz.func43 rfl rfl rfl ?_
  refine TC.seq ?_
  refine TC.region ?_
  refine vH (OpH.box rfl rfl rfl rfl rfl) ?_
  refine WO.atV (x := (.ptr 0 0)) (H := [.cells 33 (Course.cells a1)]) rfl rfl ?_
  refine vV (x := (.bool false)) (OpV.assign rfl rfl) ?_
  refine WO.nil ?_
  refine seqN ?_
  refine TC.seq ?_
  refine TC.seq ?_
  obtain ⟨b7, h8, h⟩ := bnd h
  refine TC.cut ([(1, .ptr 0 0), (46, .bool b7.2)]) ([.cells 33 (Course.cells b7.1)]) ?_ (fun env H hle => ?_)
  ·
    refine TC.region ?_
    refine vV (x := (.ptr 0 1)) (OpV.fieldP fa_33_1 rfl rfl) ?_
    refine vV (x := (.rsl 2 (List.map Mat.cells a1.Mats))) (OpV.load rfl Tryz.isAgg22 rfl (Pts.cells rfl rfl)) ?_
    refine vV (x := (.int .i64 (a1.Mats.length : Int))) (OpV.lenM Tryz.runUnderlying22) ?_
    refine vV (x := (.bool (decide (40 < (a1.Mats.length : Int))))) (OpV.gtr rfl rfl rfl) ?_
    refine vV (x := (.bool (decide (40 < (a1.Mats.length : Int))))) (OpV.move rfl rfl) ?_
    rcases bTF (decide (40 < (a1.Mats.length : Int))) with hg9 | hg9
    · have h8 := ifT hg9 h8
      refine vS (gF hg9) ?_
      refine vS (gF hg9) ?_
      refine vS (gF hg9) ?_
      refine vS (gF hg9) ?_
      refine vV (x := (.bool true)) (OpV.pickT hg9) ?_
      refine vV (x := (.bool true)) (OpV.move rfl rfl) ?_
      refine vS (gF rfl) ?_
      refine vS (gF rfl) ?_
      refine vS (gF rfl) ?_
      refine vS (gF rfl) ?_
      refine vV (x := (.bool true)) (OpV.pickT rfl) ?_
      refine vV (x := (.bool true)) (OpV.move rfl rfl) ?_
      refine vS (gF rfl) ?_
      refine vS (gF rfl) ?_
      refine vS (gF rfl) ?_
      refine vS (gF rfl) ?_
      refine vV (x := (.bool true)) (OpV.pickT rfl) ?_
      refine vV (x := (.bool true)) (OpV.move rfl rfl) ?_
      refine vS (gF rfl) ?_
      refine vS (gF rfl) ?_
      refine vS (gF rfl) ?_
      refine vS (gF rfl) ?_
      refine vV (x := (.bool true)) (OpV.pickT rfl) ?_
      refine vV (x := (.bool true)) (OpV.move rfl rfl) ?_
      refine vS (gF rfl) ?_
      refine vS (gF rfl) ?_
      refine vS (gF rfl) ?_
      refine vS (gF rfl) ?_
      refine vV (x := (.bool true)) (OpV.pickT rfl) ?_
      refine vV (x := (.bool true)) (OpV.move rfl rfl) ?_
      refine vS (gF rfl) ?_
      refine vS (gF rfl) ?_
      refine vS (gF rfl) ?_
      refine vS (gF rfl) ?_
      refine vV (x := (.bool true)) (OpV.pickT rfl) ?_
      refine WO.nil ?_
      obtain rfl := Option.some.inj h8
      refine cutN ?_
      exact Le.ren [0] rfl rfl (by decide) ⟨rfl, rfl, trivial⟩
    · have h8 := ifF hg9 h8
      refine vV (x := (.ptr 0 2)) (OpV.fieldP fa_33_2 rfl rfl) ?_ (gT hg9)
      refine vV (x := (.rsl 4 (List.map Leg.cells a1.Legs))) (OpV.load rfl Tryz.isAgg23 rfl (Pts.cells rfl rfl)) ?_ (gT hg9)
      refine vV (x := (.int .i64 (a1.Legs.length : Int))) (OpV.lenM Tryz.runUnderlying23) ?_ (gT hg9)
      refine vV (x := (.bool (decide (512 < (a1.Legs.length : Int))))) (OpV.gtr rfl rfl rfl) ?_ (gT hg9)
      refine vV (x := (.bool (decide (512 < (a1.Legs.length : Int))))) (OpV.pickF hg9) ?_
      refine vV (x := (.bool (decide (512 < (a1.Legs.length : Int))))) (OpV.move rfl rfl) ?_
      rcases bTF (decide (512 < (a1.Legs.length : Int))) with hg10 | hg10
      · have h8 := ifT hg10 h8
        refine vS (gF hg10) ?_
        refine vS (gF hg10) ?_
        refine vS (gF hg10) ?_
        refine vS (gF hg10) ?_
        refine vV (x := (.bool true)) (OpV.pickT hg10) ?_
        refine vV (x := (.bool true)) (OpV.move rfl rfl) ?_
        refine vS (gF rfl) ?_
        refine vS (gF rfl) ?_
        refine vS (gF rfl) ?_
        refine vS (gF rfl) ?_
        refine vV (x := (.bool true)) (OpV.pickT rfl) ?_
        refine vV (x := (.bool true)) (OpV.move rfl rfl) ?_
        refine vS (gF rfl) ?_
        refine vS (gF rfl) ?_
        refine vS (gF rfl) ?_
        refine vS (gF rfl) ?_
        refine vV (x := (.bool true)) (OpV.pickT rfl) ?_
        refine vV (x := (.bool true)) (OpV.move rfl rfl) ?_
        refine vS (gF rfl) ?_
        refine vS (gF rfl) ?_
        refine vS (gF rfl) ?_
        refine vS (gF rfl) ?_
        refine vV (x := (.bool true)) (OpV.pickT rfl) ?_
        refine vV (x := (.bool true)) (OpV.move rfl rfl) ?_
        refine vS (gF rfl) ?_
        refine vS (gF rfl) ?_
        refine vS (gF rfl) ?_
        refine vS (gF rfl) ?_
        refine vV (x := (.bool true)) (OpV.pickT rfl) ?_
        refine WO.nil ?_
        obtain rfl := Option.some.inj h8
        refine cutN ?_
        exact Le.ren [0] rfl rfl (by decide) ⟨rfl, rfl, trivial⟩
      · have h8 := ifF hg10 h8
        refine vV (x := (.ptr 0 3)) (OpV.fieldP fa_33_3 rfl rfl) ?_ (gT hg10)
        refine vV (x := (.rsl 5 (List.map Distance.cells a1.Distances))) (OpV.load rfl Tryz.isAgg24 rfl (Pts.cells rfl rfl)) ?_ (gT hg10)
        refine vV (x := (.int .i64 (a1.Distances.length : Int))) (OpV.lenM Tryz.runUnderlying24) ?_ (gT hg10)
        refine vV (x := (.bool (decide (8 < (a1.Distances.length : Int))))) (OpV.gtr rfl rfl rfl) ?_ (gT hg10)
        refine vV (x := (.bool (decide (8 < (a1.Distances.length : Int))))) (OpV.pickF hg10) ?_
        refine vV (x := (.bool (decide (8 < (a1.Distances.length : Int))))) (OpV.move rfl rfl) ?_
        rcases bTF (decide (8 < (a1.Distances.length : Int))) with hg11 | hg11
        · have h8 := ifT hg11 h8
          refine vS (gF hg11) ?_
          refine vS (gF hg11) ?_
          refine vS (gF hg11) ?_
          refine vS (gF hg11) ?_
          refine vV (x := (.bool true)) (OpV.pickT hg11) ?_
          refine vV (x := (.bool true)) (OpV.move rfl rfl) ?_
          refine vS (gF rfl) ?_
          refine vS (gF rfl) ?_
          refine vS (gF rfl) ?_
          refine vS (gF rfl) ?_
          refine vV (x := (.bool true)) (OpV.pickT rfl) ?_
          refine vV (x := (.bool true)) (OpV.move rfl rfl) ?_
          refine vS (gF rfl) ?_
          refine vS (gF rfl) ?_
          refine vS (gF rfl) ?_
          refine vS (gF rfl) ?_
          refine vV (x := (.bool true)) (OpV.pickT rfl) ?_
          refine vV (x := (.bool true)) (OpV.move rfl rfl) ?_
          refine vS (gF rfl) ?_
          refine vS (gF rfl) ?_
          refine vS (gF rfl) ?_
          refine vS (gF rfl) ?_
          refine vV (x := (.bool true)) (OpV.pickT rfl) ?_
          refine WO.nil ?_
          obtain rfl := Option.some.inj h8
          refine cutN ?_
          exact Le.ren [0] rfl rfl (by decide) ⟨rfl, rfl, trivial⟩
        · have h8 := ifF hg11 h8
          refine vV (x := (.ptr 0 4)) (OpV.fieldP fa_33_4 rfl rfl) ?_ (gT hg11)
          refine vV (x := (.rsl 2 (List.map Wave.cells a1.Waves))) (OpV.load rfl Tryz.isAgg25 rfl (Pts.cells rfl rfl)) ?_ (gT hg11)
          refine vV (x := (.int .i64 (a1.Waves.length : Int))) (OpV.lenM Tryz.runUnderlying25) ?_ (gT hg11)
          refine vV (x := (.bool (decide (32 < (a1.Waves.length : Int))))) (OpV.gtr rfl rfl rfl) ?_ (gT hg11)
          refine vV (x := (.bool (decide (32 < (a1.Waves.length : Int))))) (OpV.pickF hg11) ?_
          refine vV (x := (.bool (decide (32 < (a1.Waves.length : Int))))) (OpV.move rfl rfl) ?_
          rcases bTF (decide (32 < (a1.Waves.length : Int))) with hg12 | hg12
          · have h8 := ifT hg12 h8
            refine vS (gF hg12) ?_
            refine vS (gF hg12) ?_
            refine vS (gF hg12) ?_
            refine vS (gF hg12) ?_
            refine vV (x := (.bool true)) (OpV.pickT hg12) ?_
            refine vV (x := (.bool true)) (OpV.move rfl rfl) ?_
            refine vS (gF rfl) ?_
            refine vS (gF rfl) ?_
            refine vS (gF rfl) ?_
            refine vS (gF rfl) ?_
            refine vV (x := (.bool true)) (OpV.pickT rfl) ?_
            refine vV (x := (.bool true)) (OpV.move rfl rfl) ?_
            refine vS (gF rfl) ?_
            refine vS (gF rfl) ?_
            refine vS (gF rfl) ?_
            refine vS (gF rfl) ?_
            refine vV (x := (.bool true)) (OpV.pickT rfl) ?_
            refine WO.nil ?_
            obtain rfl := Option.some.inj h8
            refine cutN ?_
            exact Le.ren [0] rfl rfl (by decide) ⟨rfl, rfl, trivial⟩
          · have h8 := ifF hg12 h8
            refine vV (x := (.ptr 0 5)) (OpV.fieldP fa_33_5 rfl rfl) ?_ (gT hg12)
            refine vV (x := (.rsl 4 (List.map Offence.cells a1.Offences))) (OpV.load rfl Tryz.isAgg26 rfl (Pts.cells rfl rfl)) ?_ (gT hg12)
            refine vV (x := (.int .i64 (a1.Offences.length : Int))) (OpV.lenM Tryz.runUnderlying26) ?_ (gT hg12)
            refine vV (x := (.bool (decide (32 < (a1.Offences.length : Int))))) (OpV.gtr rfl rfl rfl) ?_ (gT hg12)
            refine vV (x := (.bool (decide (32 < (a1.Offences.length : Int))))) (OpV.pickF hg12) ?_
            refine vV (x := (.bool (decide (32 < (a1.Offences.length : Int))))) (OpV.move rfl rfl) ?_
            rcases bTF (decide (32 < (a1.Offences.length : Int))) with hg13 | hg13
            · have h8 := ifT hg13 h8
              refine vS (gF hg13) ?_
              refine vS (gF hg13) ?_
              refine vS (gF hg13) ?_
              refine vS (gF hg13) ?_
              refine vV (x := (.bool true)) (OpV.pickT hg13) ?_
              refine vV (x := (.bool true)) (OpV.move rfl rfl) ?_
              refine vS (gF rfl) ?_
              refine vS (gF rfl) ?_
              refine vS (gF rfl) ?_
              refine vS (gF rfl) ?_
              refine vV (x := (.bool true)) (OpV.pickT rfl) ?_
              refine WO.nil ?_
              obtain rfl := Option.some.inj h8
              refine cutN ?_
              exact Le.ren [0] rfl rfl (by decide) ⟨rfl, rfl, trivial⟩
            · have h8 := ifF hg13 h8
              refine vV (x := (.ptr 0 6)) (OpV.fieldP fa_33_6 rfl rfl) ?_ (gT hg13)
              refine vV (x := (.rsl 3 (List.map Category.cells a1.Categories))) (OpV.load rfl Tryz.isAgg27 rfl (Pts.cells rfl rfl)) ?_ (gT hg13)
              refine vV (x := (.int .i64 (a1.Categories.length : Int))) (OpV.lenM Tryz.runUnderlying27) ?_ (gT hg13)
              refine vV (x := (.bool (decide (32 < (a1.Categories.length : Int))))) (OpV.gtr rfl rfl rfl) ?_ (gT hg13)
              refine vV (x := (.bool (decide (32 < (a1.Categories.length : Int))))) (OpV.pickF hg13) ?_
              refine vV (x := (.bool (decide (32 < (a1.Categories.length : Int))))) (OpV.move rfl rfl) ?_
              rcases bTF (decide (32 < (a1.Categories.length : Int))) with hg14 | hg14
              · have h8 := ifT hg14 h8
                refine vS (gF hg14) ?_
                refine vS (gF hg14) ?_
                refine vS (gF hg14) ?_
                refine vS (gF hg14) ?_
                refine vV (x := (.bool true)) (OpV.pickT hg14) ?_
                refine WO.nil ?_
                obtain rfl := Option.some.inj h8
                refine cutN ?_
                exact Le.ren [0] rfl rfl (by decide) ⟨rfl, rfl, trivial⟩
              · have h8 := ifF hg14 h8
                refine vV (x := (.ptr 0 7)) (OpV.fieldP fa_33_7 rfl rfl) ?_ (gT hg14)
                refine vV (x := (.rsl 4 (List.map Prize.cells a1.Prizes))) (OpV.load rfl Tryz.isAgg28 rfl (Pts.cells rfl rfl)) ?_ (gT hg14)
                refine vV (x := (.int .i64 (a1.Prizes.length : Int))) (OpV.lenM Tryz.runUnderlying28) ?_ (gT hg14)
                refine vV (x := (.bool (decide (32 < (a1.Prizes.length : Int))))) (OpV.gtr rfl rfl rfl) ?_ (gT hg14)
                refine vV (x := (.bool (decide (32 < (a1.Prizes.length : Int))))) (OpV.pickF hg14) ?_
                refine WO.nil ?_
                obtain rfl := Option.some.inj h8
                refine cutN ?_
                exact Le.ren [0] rfl rfl (by decide) ⟨rfl, rfl, trivial⟩
  refine seqN (TC.le hle ?_)
  refine TC.cond rfl (fun hc15 => ?_) (fun hc15 => ?_)
  · have h := ifT hc15 h
    refine TC.seq ?_
    refine TC.region ?_
    refine vV (x := (.bool false)) (OpV.assign rfl rfl) ?_
    refine WO.nil ?_
    refine seqN ?_
    refine TC.ret ?_
    refine seqR ?_
    obtain rfl := Option.some.inj h
    refine ⟨[(2, .bool false)], [], _, ?_, ResOK.one rfl rfl, rfl, rfl⟩
    exact Le.ren [] rfl rfl (by decide) ⟨rfl, trivial⟩
  have h := ifF hc15 h
  refine TC.skip ?_
  refine seqN ?_
  refine TC.seq ?_
  refine TC.seq ?_
  refine TC.region ?_
  refine vV (x := (.ptr 0 3)) (OpV.fieldP fa_33_3 rfl rfl) ?_
  refine vV (x := (.rsl 5 (List.map Distance.cells b7.1.Distances))) (OpV.load rfl Tryz.isAgg24 rfl (Pts.cells rfl rfl)) ?_
  refine vV (x := (.int .i64 (b7.1.Distances.length : Int))) (OpV.lenM Tryz.runUnderlying24) ?_
  refine vV (x := (.int .i64 0)) (OpV.move rfl rfl) ?_
  refine WO.nil ?_
  refine seqN ?_
  obtain ⟨b37, h38, h⟩ := bnd h
  refine TC.cutE (b := b37) (fun sb37 => []) (fun sb37 => []) ?_ (fun sb37 env H hbe hle => ?_)
  ·
    refine TC.block ?_
    refine TC.loop (E := fun s40 => [(48, .rsl 5 (List.map Distance.cells b7.1.Distances)), (49, .int .i64 (b7.1.Distances.length : Int)), (50, .int .i64 s40)]) (Hp := fun s40 => []) h38 ?_ ?_
    ·
      exact Le.ren [] rfl rfl (by decide) ⟨rfl, rfl, rfl, trivial⟩
    intro s40 d41 h42 hb39
    refine TC.seq ?_
    refine TC.region ?_
    refine vV (x := (.bool (decide (s40 < (b7.1.Distances.length : Int))))) (OpV.lss rfl rfl rfl) ?_
    refine WO.nil ?_
    refine seqN ?_
    refine TC.seq ?_
    refine TC.condS rfl (fun hc43 => ?_) (fun hc43 => ?_)
    · have h42 := ifF hc43 h42
      refine TC.exit ?_
      refine seqX ?_
      refine loopX h42 ?_
      obtain rfl := hb39 _ (Option.some.inj h42).symm
      refine bloE ?_
      refine cutEN rfl ?_
      exact Le.ren [] rfl rfl (by decide) trivial
    have h42 := ifT hc43 h42
    refine TC.skip ?_
    refine seqN ?_
    refine TC.seq ?_
    refine TC.block ?_
    refine TC.seq ?_
    refine TC.region ?_
    obtain ⟨x44, hx44, h42⟩ := bnd h42
    refine vV (x := (.rp [.str x44.Name, .rsl 3 (List.map Part.enc x44.Route), .int .i64 x44.Timing, .rsl 3 (List.map Cutoff.cells x44.Cutoffs), .int .i64 x44.Extra])) (OpV.ixM (e := Distance.cells) (v := x44) hx44 Tryz.runUnderlying24 Tryz.sizeOf62) ?_
    refine vV (x := (.agg (Distance.cells x44))) (OpV.loadA rfl Tryz.isAgg62 Tryz.sizeOf62 rfl Pts.rp rfl rfl) ?_
    refine vH (OpH.allocZ (v := (.agg [.str [], .rsl 3 (List.map Part.enc []), .int .i64 0, .rsl 3 (List.map Cutoff.cells []), .int .i64 0])) Tryz.zeroValue62 (ZR.agg (ZL.cons ZR.str (ZL.cons ZR.rsl (ZL.cons ZR.int (ZL.cons ZR.rsl (ZL.cons ZR.int ZL.nil))))))) ?_
    refine WO.atV (x := (.ptr 0 0)) (H := [.cells 62 [.str [], .rsl 3 (List.map Part.enc []), .int .i64 0, .rsl 3 (List.map Cutoff.cells []), .int .i64 0]]) rfl rfl ?_
    refine vU (OpU.store rfl rfl rfl Tryz.sizeOf62 rfl rfl rfl rfl rfl rfl rfl) ?_
    refine WO.atH (H := [.cells 62 (Distance.cells x44)]) rfl ?_
    refine WO.nil ?_
    refine seqN ?_
    refine TC.seq ?_
    refine TC.region ?_
    refine vV (x := (.ptr 0 1)) (OpV.fieldP fa_62_1 rfl rfl) ?_
    refine vV (x := (.rsl 3 (List.map Part.enc x44.Route))) (OpV.load rfl Tryz.isAgg59 rfl (Pts.cells rfl rfl)) ?_
    obtain ⟨r45, hr45, h42⟩ := bnd h42
    refine WO.callD [] (OpC.fn Tryz.call73 rfl rfl rfl) (ok_typing_depth _ _ _ _ hr45) ?_
    rintro _ _ ⟨rfl, rfl⟩
    refine WO.atV (x := (.tup [.int .i64 r45.1, .int .i64 r45.2])) (H := [.cells 62 (Distance.cells x44)]) rfl rfl ?_
    refine vV (x := (.tup [.int .i64 r45.1, .int .i64 r45.2])) (OpV.move rfl rfl) ?_
    refine vV (x := (.int .i64 r45.1)) (OpV.extract rfl rfl rfl) ?_
    refine vV (x := (.int .i64 r45.2)) (OpV.extract rfl rfl rfl) ?_
    refine vV (x := (.int .i64 r45.1)) (OpV.assign rfl rfl) ?_
    refine vV (x := (.int .i64 r45.2)) (OpV.assign rfl rfl) ?_
    refine WO.nil ?_
    refine seqN ?_
    refine TC.seq ?_
    obtain ⟨b48, h49, h42⟩ := bnd h42
    refine TC.cut ([(48, .rsl 5 (List.map Distance.cells b7.1.Distances)), (49, .int .i64 (b7.1.Distances.length : Int)), (50, .int .i64 s40), (71, .bool b48)]) ([]) ?_ (fun env H hle => ?_)
    ·
      refine TC.region ?_
      refine vV (x := (.ptr 0 3)) (OpV.fieldP fa_62_3 rfl rfl) ?_
      refine vV (x := (.rsl 3 (List.map Cutoff.cells x44.Cutoffs))) (OpV.load rfl Tryz.isAgg60 rfl (Pts.cells rfl rfl)) ?_
      refine vV (x := (.int .i64 (x44.Cutoffs.length : Int))) (OpV.lenM Tryz.runUnderlying60) ?_
      refine vV (x := (.bool (decide (64 < (x44.Cutoffs.length : Int))))) (OpV.gtr rfl rfl rfl) ?_
      refine vV (x := (.bool (decide (64 < (x44.Cutoffs.length : Int))))) (OpV.move rfl rfl) ?_
      rcases bTF (decide (64 < (x44.Cutoffs.length : Int))) with hg50 | hg50
      · have h49 := ifT hg50 h49
        refine vS (gF hg50) ?_
        refine vS (gF hg50) ?_
        refine vV (x := (.bool true)) (OpV.pickT hg50) ?_
        refine vV (x := (.bool true)) (OpV.move rfl rfl) ?_
        refine vS (gF rfl) ?_
        refine vS (gF rfl) ?_
        refine vV (x := (.bool true)) (OpV.pickT rfl) ?_
        refine WO.nil ?_
        obtain rfl := Option.some.inj h49
        refine cutN ?_
        exact Le.ren [] rfl rfl (by decide) ⟨rfl, rfl, rfl, rfl, trivial⟩
      · have h49 := ifF hg50 h49
        refine vV (x := (.int .i64 r45.1)) (OpV.move rfl rfl) ?_ (gT hg50)
        refine vV (x := (.bool (decide (16 < r45.1)))) (OpV.gtr rfl rfl rfl) ?_ (gT hg50)
        refine vV (x := (.bool (decide (16 < r45.1)))) (OpV.pickF hg50) ?_
        refine vV (x := (.bool (decide (16 < r45.1)))) (OpV.move rfl rfl) ?_
        rcases bTF (decide (16 < r45.1)) with hg51 | hg51
        · have h49 := ifT hg51 h49
          refine vS (gF hg51) ?_
          refine vS (gF hg51) ?_
          refine vV (x := (.bool true)) (OpV.pickT hg51) ?_
          refine WO.nil ?_
          obtain rfl := Option.some.inj h49
          refine cutN ?_
          exact Le.ren [] rfl rfl (by decide) ⟨rfl, rfl, rfl, rfl, trivial⟩
        · have h49 := ifF hg51 h49
          refine vV (x := (.int .i64 r45.2)) (OpV.move rfl rfl) ?_ (gT hg51)
          refine vV (x := (.bool (decide (256 < r45.2)))) (OpV.gtr rfl rfl rfl) ?_ (gT hg51)
          refine vV (x := (.bool (decide (256 < r45.2)))) (OpV.pickF hg51) ?_
          refine WO.nil ?_
          obtain rfl := Option.some.inj h49
          refine cutN ?_
          exact Le.ren [] rfl rfl (by decide) ⟨rfl, rfl, rfl, rfl, trivial⟩
    refine seqN (TC.le hle ?_)
    refine TC.cond rfl (fun hc52 => ?_) (fun hc52 => ?_)
    · have h42 := ifT hc52 h42
      refine TC.seq ?_
      refine TC.region ?_
      refine vV (x := (.bool false)) (OpV.assign rfl rfl) ?_
      refine WO.nil ?_
      refine seqN ?_
      refine TC.ret ?_
      refine bloR ?_
      refine seqR ?_
      refine loopR h42 ?_
      obtain rfl := hb39 _ (Option.some.inj h42).symm
      refine bloR ?_
      refine cutER ?_
      refine seqR ?_
      obtain rfl := Option.some.inj h
      refine ⟨[(2, .bool false)], [], _, ?_, ResOK.one rfl rfl, rfl, rfl⟩
      exact Le.ren [] rfl rfl (by decide) ⟨rfl, trivial⟩
    have h42 := ifF hc52 h42
    refine TC.skip ?_
    refine bloN ?_
    refine seqN ?_
    refine TC.region ?_
    refine vV (x := (.int .i64 (IntKind.i64.wrap (s40 + 1)))) (OpV.add rfl rfl rfl) ?_
    refine vV (x := (.int .i64 (IntKind.i64.wrap (s40 + 1)))) (OpV.move rfl rfl) ?_
    refine WO.nil ?_
    refine loopN h42 ?_
    exact Le.ren [] rfl rfl (by decide) ⟨rfl, rfl, rfl, trivial⟩
  subst hbe
  refine seqN (TC.le hle ?_)
  refine TC.seq ?_
  refine TC.region ?_
  refine vV (x := (.bool true)) (OpV.assign rfl rfl) ?_
  refine WO.nil ?_
  refine seqN ?_
  refine TC.ret ?_
  obtain rfl := Option.some.inj h
  refine ⟨[(2, .bool true)], [], _, ?_, ResOK.one rfl rfl, rfl, rfl⟩
  exact Le.ren [] rfl rfl (by decide) ⟨rfl, trivial⟩

/- stopwatch/typing.isName -/
def F_typing_isName_L1 (n : Nat) (a1 : List UInt8) (s52 : Int) : Option (Ctl Int (Ctl Unit Unit)) :=
  (bif decide (s52 < (a1.length : Int)) then (idx a1 s52).bind fun x56 => ((bif decide ((x56.toNat : Int) < 97) then (bif decide ((x56.toNat : Int) < 48) then some ((x56.toNat : Int) != 95) else (bif decide (57 < (x56.toNat : Int)) then some ((x56.toNat : Int) != 95) else some false)) else (bif decide (122 < (x56.toNat : Int)) then (bif decide ((x56.toNat : Int) < 48) then some ((x56.toNat : Int) != 95) else (bif decide (57 < (x56.toNat : Int)) then some ((x56.toNat : Int) != 95) else some false)) else some false)) : Option Bool).bind fun b63 => (bif b63 then some (.done (.done ())) else some (.cont (IntKind.i64.wrap (s52 + 1)))) else some (.done (.cont ())))
def F_typing_isName (n : Nat) (a1 : List UInt8) : Option Unit :=
  ((bif decide ((a1.length : Int) < 1) then some true else (bif decide (24 < (a1.length : Int)) then some true else (idx a1 0).bind fun x10 => (bif decide ((x10.toNat : Int) < 97) then some true else (idx a1 0).bind fun x12 => some (decide (122 < (x12.toNat : Int)))))) : Option Bool).bind fun b6 => (bif b6 then some () else (iter (F_typing_isName_L1 n a1) n 0 : Option (Ctl Unit Unit)).bind fun b49 => match b49 with | .cont sb49 => none | .done sb49 => some sb49)
theorem ok_typing_isName (n : Nat) (a1 : List UInt8) (r : Unit) (h : F_typing_isName n a1 = some r) :
    C Tryz.prog 74 [.str a1] [] (fun a H => a = .bool false ∧ H = []) := by
  refine C.of_body Tryz.func74 rfl rfl rfl ?_
  refine TC.seq ?_
  refine TC.region ?_
  refine vV (x := (.bool false)) (OpV.assign rfl rfl) ?_
  refine WO.nil ?_
  refine seqN ?_
  refine TC.seq ?_
  refine TC.seq ?_
  obtain ⟨b6, h7, h⟩ := bnd h
  refine TC.cut ([(0, .str a1), (22, .bool b6)]) ([]) ?_ (fun env H hle => ?_)
  ·
    refine TC.region ?_
    refine vV (x := (.str a1)) (OpV.move rfl rfl) ?_
    refine vV (x := (.int .i64 (a1.length : Int))) (OpV.lenStr rfl rfl Tryz.runUnderlying9 rfl) ?_
    refine vV (x := (.bool (decide ((a1.length : Int) < 1)))) (OpV.lss rfl rfl rfl) ?_
    refine vV (x := (.bool (decide ((a1.length : Int) < 1)))) (OpV.move rfl rfl) ?_
    rcases bTF (decide ((a1.length : Int) < 1)) with hg8 | hg8
    · have h7 := ifT hg8 h7
      refine vS (gF hg8) ?_
      refine vS (gF hg8) ?_
      refine vS (gF hg8) ?_
      refine vV (x := (.bool true)) (OpV.pickT hg8) ?_
      refine vV (x := (.bool true)) (OpV.move rfl rfl) ?_
      refine vS (gF rfl) ?_
      refine vS (gF rfl) ?_
      refine vS (gF rfl) ?_
      refine vV (x := (.bool true)) (OpV.pickT rfl) ?_
      refine vV (x := (.bool true)) (OpV.move rfl rfl) ?_
      refine vS (gF rfl) ?_
      refine vS (gF rfl) ?_
      refine vS (gF rfl) ?_
      refine vV (x := (.bool true)) (OpV.pickT rfl) ?_
      refine WO.nil ?_
      obtain rfl := Option.some.inj h7
      refine cutN ?_
      exact Le.ren [] rfl rfl (by decide) ⟨rfl, rfl, trivial⟩
    · have h7 := ifF hg8 h7
      refine vV (x := (.str a1)) (OpV.move rfl rfl) ?_ (gT hg8)
      refine vV (x := (.int .i64 (a1.length : Int))) (OpV.lenStr rfl rfl Tryz.runUnderlying9 rfl) ?_ (gT hg8)
      refine vV (x := (.bool (decide (24 < (a1.length : Int))))) (OpV.gtr rfl rfl rfl) ?_ (gT hg8)
      refine vV (x := (.bool (decide (24 < (a1.length : Int))))) (OpV.pickF hg8) ?_
      refine vV (x := (.bool (decide (24 < (a1.length : Int))))) (OpV.move rfl rfl) ?_
      rcases bTF (decide (24 < (a1.length : Int))) with hg9 | hg9
      · have h7 := ifT hg9 h7
        refine vS (gF hg9) ?_
        refine vS (gF hg9) ?_
        refine vS (gF hg9) ?_
        refine vV (x := (.bool true)) (OpV.pickT hg9) ?_
        refine vV (x := (.bool true)) (OpV.move rfl rfl) ?_
        refine vS (gF rfl) ?_
        refine vS (gF rfl) ?_
        refine vS (gF rfl) ?_
        refine vV (x := (.bool true)) (OpV.pickT rfl) ?_
        refine WO.nil ?_
        obtain rfl := Option.some.inj h7
        refine cutN ?_
        exact Le.ren [] rfl rfl (by decide) ⟨rfl, rfl, trivial⟩
      · have h7 := ifF hg9 h7
        refine vV (x := (.str a1)) (OpV.move rfl rfl) ?_ (gT hg9)
        obtain ⟨x10, hx10, h7⟩ := bnd h7
        refine vV (x := (.int .u8 (x10.toNat : Int))) (OpV.strIdx hx10 Tryz.runUnderlying9) ?_ (gT hg9)
        refine vV (x := (.bool (decide ((x10.toNat : Int) < 97)))) (OpV.lss rfl rfl rfl) ?_ (gT hg9)
        refine vV (x := (.bool (decide ((x10.toNat : Int) < 97)))) (OpV.pickF hg9) ?_
        refine vV (x := (.bool (decide ((x10.toNat : Int) < 97)))) (OpV.move rfl rfl) ?_
        rcases bTF (decide ((x10.toNat : Int) < 97)) with hg11 | hg11
        · have h7 := ifT hg11 h7
          refine vS (gF hg11) ?_
          refine vS (gF hg11) ?_
          refine vS (gF hg11) ?_
          refine vV (x := (.bool true)) (OpV.pickT hg11) ?_
          refine WO.nil ?_
          obtain rfl := Option.some.inj h7
          refine cutN ?_
          exact Le.ren [] rfl rfl (by decide) ⟨rfl, rfl, trivial⟩
        · have h7 := ifF hg11 h7
          refine vV (x := (.str a1)) (OpV.move rfl rfl) ?_ (gT hg11)
          obtain ⟨x12, hx12, h7⟩ := bnd h7
          refine vV (x := (.int .u8 (x12.toNat : Int))) (OpV.strIdx hx12 Tryz.runUnderlying9) ?_ (gT hg11)
          refine vV (x := (.bool (decide (122 < (x12.toNat : Int))))) (OpV.gtr rfl rfl rfl) ?_ (gT hg11)
          refine vV (x := (.bool (decide (122 < (x12.toNat : Int))))) (OpV.pickF hg11) ?_
          refine WO.nil ?_
          obtain rfl := Option.some.inj h7
          refine cutN ?_
          exact Le.ren [] rfl rfl (by decide) ⟨rfl, rfl, trivial⟩
  refine seqN (TC.le hle ?_)
  refine TC.cond rfl (fun hc13 => ?_) (fun hc13 => ?_)
  · have h := ifT hc13 h
    refine TC.seq ?_
    refine TC.region ?_
    refine vV (x := (.bool false)) (OpV.assign rfl rfl) ?_
    refine WO.nil ?_
    refine seqN ?_
    refine TC.ret ?_
    refine seqR ?_
    obtain rfl := Option.some.inj h
    refine ⟨[(2, .bool false)], [], _, ?_, ResOK.one rfl rfl, rfl, rfl⟩
    exact Le.ren [] rfl rfl (by decide) ⟨rfl, trivial⟩
  have h := ifF hc13 h
  refine TC.skip ?_
  refine seqN ?_
  refine TC.seq ?_
  refine TC.seq ?_
  refine TC.region ?_
  refine vV (x := (.str a1)) (OpV.move rfl rfl) ?_
  refine vV (x := (.int .i64 (a1.length : Int))) (OpV.lenStr rfl rfl Tryz.runUnderlying9 rfl) ?_
  refine vV (x := (.int .i64 0)) (OpV.move rfl rfl) ?_
  refine WO.nil ?_
  refine seqN ?_
  obtain ⟨b49, h50, h⟩ := bnd h
  refine TC.cutE (b := b49) (fun sb49 => [(0, .str a1)]) (fun sb49 => []) ?_ (fun sb49 env H hbe hle => ?_)
  ·
    refine TC.block ?_
    refine TC.loop (E := fun s52 => [(0, .str a1), (24, .int .i64 (a1.length : Int)), (25, .int .i64 s52)]) (Hp := fun s52 => []) h50 ?_ ?_
    ·
      exact Le.ren [] rfl rfl (by decide) ⟨rfl, rfl, rfl, trivial⟩
    intro s52 d53 h54 hb51
    refine TC.seq ?_
    refine TC.region ?_
    refine vV (x := (.bool (decide (s52 < (a1.length : Int))))) (OpV.lss rfl rfl rfl) ?_
    refine WO.nil ?_
    refine seqN ?_
    refine TC.seq ?_
    refine TC.condS rfl (fun hc55 => ?_) (fun hc55 => ?_)
    · have h54 := ifF hc55 h54
      refine TC.exit ?_
      refine seqX ?_
      refine loopX h54 ?_
      obtain rfl := hb51 _ (Option.some.inj h54).symm
      refine bloE ?_
      refine cutEN rfl ?_
      exact Le.ren [] rfl rfl (by decide) ⟨rfl, trivial⟩
    have h54 := ifT hc55 h54
    refine TC.skip ?_
    refine seqN ?_
    refine TC.seq ?_
    refine TC.block ?_
    refine TC.seq ?_
    refine TC.region ?_
    refine vV (x := (.int .i64 s52)) (OpV.move rfl rfl) ?_
    refine vV (x := (.int .i64 s52)) (OpV.assign rfl rfl) ?_
    refine WO.nil ?_
    refine seqN ?_
    refine TC.seq ?_
    refine TC.region ?_
    refine vV (x := (.str a1)) (OpV.move rfl rfl) ?_
    refine vV (x := (.int .i64 s52)) (OpV.move rfl rfl) ?_
    obtain ⟨x56, hx56, h54⟩ := bnd h54
    refine vV (x := (.int .u8 (x56.toNat : Int))) (OpV.strIdx hx56 Tryz.runUnderlying9) ?_
    refine vV (x := (.int .u8 (x56.toNat : Int))) (OpV.assign rfl rfl) ?_
    refine WO.nil ?_
    refine seqN ?_
    refine TC.seq ?_
    obtain ⟨b63, h64, h54⟩ := bnd h54
    refine TC.cut ([(0, .str a1), (24, .int .i64 (a1.length : Int)), (25, .int .i64 s52), (48, .bool b63)]) ([]) ?_ (fun env H hle => ?_)
    ·
      refine TC.region ?_
      refine vV (x := (.int .u8 (x56.toNat : Int))) (OpV.move rfl rfl) ?_
      refine vV (x := (.bool (decide ((x56.toNat : Int) < 97)))) (OpV.lss rfl rfl rfl) ?_
      refine vV (x := (.bool (decide ((x56.toNat : Int) < 97)))) (OpV.move rfl rfl) ?_
      rcases bTF (decide ((x56.toNat : Int) < 97)) with hg65 | hg65
      · have h64 := ifT hg65 h64
        refine vS (gF hg65) ?_
        refine vS (gF hg65) ?_
        refine vV (x := (.bool true)) (OpV.pickT hg65) ?_
        refine vV (x := (.bool true)) (OpV.move rfl rfl) ?_
        refine vV (x := (.int .u8 (x56.toNat : Int))) (OpV.move rfl rfl) ?_ (gT rfl)
        refine vV (x := (.bool (decide ((x56.toNat : Int) < 48)))) (OpV.lss rfl rfl rfl) ?_ (gT rfl)
        refine vV (x := (.bool (decide ((x56.toNat : Int) < 48)))) (OpV.move rfl rfl) ?_ (gT rfl)
        rcases bTF (decide ((x56.toNat : Int) < 48)) with hg66 | hg66
        · have h64 := ifT hg66 h64
          refine vS (gF hg66) ?_
          refine vS (gF hg66) ?_
          refine vV (x := (.bool true)) (OpV.pickT hg66) ?_ (gT rfl)
          refine vV (x := (.bool true)) (OpV.pickT rfl) ?_
          refine vV (x := (.bool true)) (OpV.move rfl rfl) ?_
          refine vV (x := (.int .u8 (x56.toNat : Int))) (OpV.move rfl rfl) ?_ (gT rfl)
          refine vV (x := (.bool ((x56.toNat : Int) != 95))) (OpV.neq rfl rfl rfl) ?_ (gT rfl)
          refine vV (x := (.bool ((x56.toNat : Int) != 95))) (OpV.pickT rfl) ?_
          refine WO.nil ?_
          obtain rfl := Option.some.inj h64
          refine cutN ?_
          exact Le.ren [] rfl rfl (by decide) ⟨rfl, rfl, rfl, rfl, trivial⟩
        · have h64 := ifF hg66 h64
          refine vV (x := (.int .u8 (x56.toNat : Int))) (OpV.move rfl rfl) ?_ (gT hg66)
          refine vV (x := (.bool (decide (57 < (x56.toNat : Int))))) (OpV.gtr rfl rfl rfl) ?_ (gT hg66)
          refine vV (x := (.bool (decide (57 < (x56.toNat : Int))))) (OpV.pickF hg66) ?_ (gT rfl)
          refine vV (x := (.bool (decide (57 < (x56.toNat : Int))))) (OpV.pickT rfl) ?_
          refine vV (x := (.bool (decide (57 < (x56.toNat : Int))))) (OpV.move rfl rfl) ?_
          rcases bTF (decide (57 < (x56.toNat : Int))) with hg67 | hg67
          · have h64 := ifT hg67 h64
            refine vV (x := (.int .u8 (x56.toNat : Int))) (OpV.move rfl rfl) ?_ (gT hg67)
            refine vV (x := (.bool ((x56.toNat : Int) != 95))) (OpV.neq rfl rfl rfl) ?_ (gT hg67)
            refine vV (x := (.bool ((x56.toNat : Int) != 95))) (OpV.pickT hg67) ?_
            refine WO.nil ?_
            obtain rfl := Option.some.inj h64
            refine cutN ?_
            exact Le.ren [] rfl rfl (by decide) ⟨rfl, rfl, rfl, rfl, trivial⟩
          · have h64 := ifF hg67 h64
            refine vS (gF hg67) ?_
            refine vS (gF hg67) ?_
            refine vV (x := (.bool false)) (OpV.pickF hg67) ?_
            refine WO.nil ?_
            obtain rfl := Option.some.inj h64
            refine cutN ?_
            exact Le.ren [] rfl rfl (by decide) ⟨rfl, rfl, rfl, rfl, trivial⟩
      · have h64 := ifF hg65 h64
        refine vV (x := (.int .u8 (x56.toNat : Int))) (OpV.move rfl rfl) ?_ (gT hg65)
        refine vV (x := (.bool (decide (122 < (x56.toNat : Int))))) (OpV.gtr rfl rfl rfl) ?_ (gT hg65)
        refine vV (x := (.bool (decide (122 < (x56.toNat : Int))))) (OpV.pickF hg65) ?_
        refine vV (x := (.bool (decide (122 < (x56.toNat : Int))))) (OpV.move rfl rfl) ?_
        rcases bTF (decide (122 < (x56.toNat : Int))) with hg68 | hg68
        · have h64 := ifT hg68 h64
          refine vV (x := (.int .u8 (x56.toNat : Int))) (OpV.move rfl rfl) ?_ (gT hg68)
          refine vV (x := (.bool (decide ((x56.toNat : Int) < 48)))) (OpV.lss rfl rfl rfl) ?_ (gT hg68)
          refine vV (x := (.bool (decide ((x56.toNat : Int) < 48)))) (OpV.move rfl rfl) ?_ (gT hg68)
          rcases bTF (decide ((x56.toNat : Int) < 48)) with hg69 | hg69
          · have h64 := ifT hg69 h64
            refine vS (gF hg69) ?_
            refine vS (gF hg69) ?_
            refine vV (x := (.bool true)) (OpV.pickT hg69) ?_ (gT hg68)
            refine vV (x := (.bool true)) (OpV.pickT hg68) ?_
            refine vV (x := (.bool true)) (OpV.move rfl rfl) ?_
            refine vV (x := (.int .u8 (x56.toNat : Int))) (OpV.move rfl rfl) ?_ (gT rfl)
            refine vV (x := (.bool ((x56.toNat : Int) != 95))) (OpV.neq rfl rfl rfl) ?_ (gT rfl)
            refine vV (x := (.bool ((x56.toNat : Int) != 95))) (OpV.pickT rfl) ?_
            refine WO.nil ?_
            obtain rfl := Option.some.inj h64
            refine cutN ?_
            exact Le.ren [] rfl rfl (by decide) ⟨rfl, rfl, rfl, rfl, trivial⟩
          · have h64 := ifF hg69 h64
            refine vV (x := (.int .u8 (x56.toNat : Int))) (OpV.move rfl rfl) ?_ (gT hg69)
            refine vV (x := (.bool (decide (57 < (x56.toNat : Int))))) (OpV.gtr rfl rfl rfl) ?_ (gT hg69)
            refine vV (x := (.bool (decide (57 < (x56.toNat : Int))))) (OpV.pickF hg69) ?_ (gT hg68)
            refine vV (x := (.bool (decide (57 < (x56.toNat : Int))))) (OpV.pickT hg68) ?_
            refine vV (x := (.bool (decide (57 < (x56.toNat : Int))))) (OpV.move rfl rfl) ?_
            rcases bTF (decide (57 < (x56.toNat : Int))) with hg70 | hg70
            · have h64 := ifT hg70 h64
              refine vV (x := (.int .u8 (x56.toNat : Int))) (OpV.move rfl rfl) ?_ (gT hg70)
              refine vV (x := (.bool ((x56.toNat : Int) != 95))) (OpV.neq rfl rfl rfl) ?_ (gT hg70)
              refine vV (x := (.bool ((x56.toNat : Int) != 95))) (OpV.pickT hg70) ?_
              refine WO.nil ?_
              obtain rfl := Option.some.inj h64
              refine cutN ?_
              exact Le.ren [] rfl rfl (by decide) ⟨rfl, rfl, rfl, rfl, trivial⟩
            · have h64 := ifF hg70 h64
              refine vS (gF hg70) ?_
              refine vS (gF hg70) ?_
              refine vV (x := (.bool false)) (OpV.pickF hg70) ?_
              refine WO.nil ?_
              obtain rfl := Option.some.inj h64
              refine cutN ?_
              exact Le.ren [] rfl rfl (by decide) ⟨rfl, rfl, rfl, rfl, trivial⟩
        · have h64 := ifF hg68 h64
          refine vS (gF hg68) ?_
          refine vS (gF hg68) ?_
          refine vS (gF hg68) ?_
          refine vS gU ?_
          refine vS gU ?_
          refine vS (gF hg68) ?_
          refine vV (x := (.bool false)) (OpV.pickF hg68) ?_
          refine vV (x := (.bool false)) (OpV.move rfl rfl) ?_
          refine vS (gF rfl) ?_
          refine vS (gF rfl) ?_
          refine vV (x := (.bool false)) (OpV.pickF rfl) ?_
          refine WO.nil ?_
          obtain rfl := Option.some.inj h64
          refine cutN ?_
          exact Le.ren [] rfl rfl (by decide) ⟨rfl, rfl, rfl, rfl, trivial⟩
    refine seqN (TC.le hle ?_)
    refine TC.cond rfl (fun hc71 => ?_) (fun hc71 => ?_)
    · have h54 := ifT hc71 h54
      refine TC.seq ?_
      refine TC.region ?_
      refine vV (x := (.bool false)) (OpV.assign rfl rfl) ?_
      refine WO.nil ?_
      refine seqN ?_
      refine TC.ret ?_
      refine bloR ?_
      refine seqR ?_
      refine loopR h54 ?_
      obtain rfl := hb51 _ (Option.some.inj h54).symm
      refine bloR ?_
      refine cutER ?_
      refine seqR ?_
      obtain rfl := Option.some.inj h
      refine ⟨[(2, .bool false)], [], _, ?_, ResOK.one rfl rfl, rfl, rfl⟩
      exact Le.ren [] rfl rfl (by decide) ⟨rfl, trivial⟩
    have h54 := ifF hc71 h54
    refine TC.skip ?_
    refine bloN ?_
    refine seqN ?_
    refine TC.region ?_
    refine vV (x := (.int .i64 (IntKind.i64.wrap (s52 + 1)))) (OpV.add rfl rfl rfl) ?_
    refine vV (x := (.int .i64 (IntKind.i64.wrap (s52 + 1)))) (OpV.move rfl rfl) ?_
    refine WO.nil ?_
    refine loopN h54 ?_
    exact Le.ren [] rfl rfl (by decide) ⟨rfl, rfl, rfl, trivial⟩
  subst hbe
  refine seqN (TC.le hle ?_)
  refine TC.seq ?_
  cases h

/- stopwatch/typing.names -/
def F_typing_names (n : Nat) (a1 : Course) : Option Unit :=
  ((F_typing_isName n a1.Name).bind fun r4 => some () : Option Unit).bind fun b2 => some ()
theorem ok_typing_names (n : Nat) (a1 : Course) (r : Unit) (h : F_typing_names n a1 = some r) :
    C Tryz.prog 44 [.agg (Course.cells a1)] [] (fun a H => a = .bool false ∧ H = []) := by
  refine C.of_body Tryz.func44 rfl rfl rfl ?_
  refine TC.seq ?_
  refine TC.region ?_
  refine vH (OpH.box rfl rfl rfl rfl rfl) ?_
  refine WO.atV (x := (.ptr 0 0)) (H := [.cells 33 (Course.cells a1)]) rfl rfl ?_
  refine vV (x := (.bool false)) (OpV.assign rfl rfl) ?_
  refine WO.nil ?_
  refine seqN ?_
  refine TC.seq ?_
  obtain ⟨b2, h3, h⟩ := bnd h
  refine TC.cut ([(2, .bool false)]) ([]) ?_ (fun env H hle => ?_)
  ·
    refine TC.region ?_
    refine vV (x := (.ptr 0 0)) (OpV.fieldP fa_33_0 rfl rfl) ?_
    refine vV (x := (.str a1.Name)) (OpV.load rfl Tryz.isAgg9 rfl (Pts.cells rfl rfl)) ?_
    obtain ⟨r4, hr4, h3⟩ := bnd h3
    refine WO.callD [] (OpC.fn Tryz.call74 rfl rfl rfl) (ok_typing_isName _ _ _ hr4) ?_
    rintro _ _ ⟨rfl, rfl⟩
    refine WO.atV (x := (.bool false)) (H := [.cells 33 (Course.cells a1)]) rfl rfl ?_
    refine vV (x := (.bool false)) (OpV.move rfl rfl) ?_
    refine vS (gF rfl) ?_
    refine vS (gF rfl) ?_
    refine vS (gF rfl) ?_
    refine vV (x := (.bool false)) (OpV.pickF rfl) ?_
    refine vV (x := (.bool false)) (OpV.move rfl rfl) ?_
    refine vS (gF rfl) ?_
    refine vS (gF rfl) ?_
    refine vS (gF rfl) ?_
    refine vV (x := (.bool false)) (OpV.pickF rfl) ?_
    refine vV (x := (.bool false)) (OpV.move rfl rfl) ?_
    refine vS (gF rfl) ?_
    refine vS (gF rfl) ?_
    refine vS (gF rfl) ?_
    refine vV (x := (.bool false)) (OpV.pickF rfl) ?_
    refine vV (x := (.bool false)) (OpV.move rfl rfl) ?_
    refine vS (gF rfl) ?_
    refine vS (gF rfl) ?_
    refine vS (gF rfl) ?_
    refine vV (x := (.bool false)) (OpV.pickF rfl) ?_
    refine vV (x := (.bool false)) (OpV.move rfl rfl) ?_
    refine vS (gF rfl) ?_
    refine vS (gF rfl) ?_
    refine vS (gF rfl) ?_
    refine vV (x := (.bool false)) (OpV.pickF rfl) ?_
    refine vV (x := (.bool false)) (OpV.assign rfl rfl) ?_
    refine WO.nil ?_
    obtain rfl := Option.some.inj h3
    refine cutN ?_
    exact Le.ren [] rfl rfl (by decide) ⟨rfl, trivial⟩
  refine seqN (TC.le hle ?_)
  refine TC.ret ?_
  obtain rfl := Option.some.inj h
  refine ⟨[(2, .bool false)], [], _, ?_, ResOK.one rfl rfl, rfl, rfl⟩
  exact Le.ren [] rfl rfl (by decide) ⟨rfl, trivial⟩

/- stopwatch/typing.within$1 -/
def F_typing_within_1 (n : Nat) (a1 : Int) (a2 : Int) (a3 : Int) : Option Bool :=
  ((bif decide (a1 < a2) then some true else some (decide (a3 < a1))) : Option Bool).bind fun b2 => some b2
theorem ok_typing_within_1 (n : Nat) (a1 : Int) (a2 : Int) (a3 : Int) (r : Bool) (h : F_typing_within_1 n a1 a2 a3 = some r) :
    C Tryz.prog 140 [.int .i64 a1, .ptr 0 0, .ptr 1 0] [.cells 3 [.int .i64 a2], .cells 3 [.int .i64 a3]] (fun a H => a = .bool r ∧ H = [.cells 3 [.int .i64 a2], .cells 3 [.int .i64 a3]]) := by
  refine C.of_body Tryz.func140 rfl rfl rfl ?_
  refine TC.seq ?_
  refine TC.region ?_
  refine vV (x := (.bool false)) (OpV.assign rfl rfl) ?_
  refine WO.nil ?_
  refine seqN ?_
  refine TC.seq ?_
  obtain ⟨b2, h3, h⟩ := bnd h
  refine TC.cut ([(4, .bool b2)]) ([.cells 3 [.int .i64 a2], .cells 3 [.int .i64 a3]]) ?_ (fun env H hle => ?_)
  ·
    refine TC.region ?_
    refine vV (x := (.int .i64 a1)) (OpV.move rfl rfl) ?_
    refine vV (x := (.int .i64 a2)) (OpV.load rfl Tryz.isAgg3 rfl (Pts.cells rfl rfl)) ?_
    refine vV (x := (.bool (decide (a1 < a2)))) (OpV.lss rfl rfl rfl) ?_
    refine vV (x := (.bool (decide (a1 < a2)))) (OpV.move rfl rfl) ?_
    rcases bTF (decide (a1 < a2)) with hg4 | hg4
    · have h3 := ifT hg4 h3
      refine vS (gF hg4) ?_
      refine vS (gF hg4) ?_
      refine vS (gF hg4) ?_
      refine vV (x := (.bool true)) (OpV.pickT hg4) ?_
      refine vV (x := (.bool true)) (OpV.assign rfl rfl) ?_
      refine WO.nil ?_
      obtain rfl := Option.some.inj h3
      refine cutN ?_
      exact Le.ren [0, 1] rfl rfl (by decide) ⟨rfl, trivial⟩
    · have h3 := ifF hg4 h3
      refine vV (x := (.int .i64 a1)) (OpV.move rfl rfl) ?_ (gT hg4)
      refine vV (x := (.int .i64 a3)) (OpV.load rfl Tryz.isAgg3 rfl (Pts.cells rfl rfl)) ?_ (gT hg4)
      refine vV (x := (.bool (decide (a3 < a1)))) (OpV.gtr rfl rfl rfl) ?_ (gT hg4)
      refine vV (x := (.bool (decide (a3 < a1)))) (OpV.pickF hg4) ?_
      refine vV (x := (.bool (decide (a3 < a1)))) (OpV.assign rfl rfl) ?_
      refine WO.nil ?_
      obtain rfl := Option.some.inj h3
      refine cutN ?_
      exact Le.ren [0, 1] rfl rfl (by decide) ⟨rfl, trivial⟩
  refine seqN (TC.le hle ?_)
  refine TC.ret ?_
  obtain rfl := Option.some.inj h
  refine ⟨[(4, .bool b2)], [.cells 3 [.int .i64 a2], .cells 3 [.int .i64 a3]], _, ?_, ResOK.one rfl rfl, rfl, rfl⟩
  exact Le.ren [0, 1] rfl rfl (by decide) ⟨rfl, trivial⟩

/- slices.IndexFunc[[]int,int] -/
def F_slices_IndexFunc_2_L1 (n : Nat) (a1 : List Int) (a2 : Int) (a3 : Int) (s13 : Int) : Option (Ctl Int (Ctl Unit Int)) :=
  (bif decide (s13 < (a1.length : Int)) then (idx a1 s13).bind fun x17 => (F_typing_within_1 n x17 a2 a3).bind fun r18 => (bif r18 then some (.done (.done s13)) else some (.cont (IntKind.i64.wrap (s13 + 1)))) else some (.done (.cont ())))
def F_slices_IndexFunc_2 (n : Nat) (a1 : List Int) (a2 : Int) (a3 : Int) : Option Int :=
  (iter (F_slices_IndexFunc_2_L1 n a1 a2 a3) n 0 : Option (Ctl Unit Int)).bind fun b10 => match b10 with | .cont sb10 => (some (-1)) | .done sb10 => some sb10
theorem ok_slices_IndexFunc_2 (n : Nat) (a1 : List Int) (a2 : Int) (a3 : Int) (r : Int) (h : F_slices_IndexFunc_2 n a1 a2 a3 = some r) :
    C Tryz.prog 172 [.rsl 1 (List.map (encI .i64) a1), .fn (.func 140) [] [.ptr 0 0, .ptr 1 0]] [.cells 3 [.int .i64 a2], .cells 3 [.int .i64 a3]] (fun a H => a = .int .i64 r ∧ H = [.cells 3 [.int .i64 a2], .cells 3 [.int .i64 a3]]) := by
  refine C.of_body Tryz.func172 rfl rfl rfl ?_
  refine TC.seq ?_
  refine TC.region ?_
  refine vV (x := (.int .i64 0)) (OpV.assign rfl rfl) ?_
  refine WO.nil ?_
  refine seqN ?_
  refine TC.seq ?_
  refine TC.seq ?_
  refine TC.region ?_
  refine vV (x := (.rsl 1 (List.map (encI .i64) a1))) (OpV.move rfl rfl) ?_
  refine vV (x := (.int .i64 (a1.length : Int))) (OpV.lenM Tryz.runUnderlying39) ?_
  refine vV (x := (.int .i64 0)) (OpV.move rfl rfl) ?_
  refine WO.nil ?_
  refine seqN ?_
  obtain ⟨b10, h11, h⟩ := bnd h
  refine TC.cutE (b := b10) (fun sb10 => []) (fun sb10 => [.cells 3 [.int .i64 a2], .cells 3 [.int .i64 a3]]) ?_ (fun sb10 env H hbe hle => ?_)
  ·
    refine TC.block ?_
    refine TC.loop (E := fun s13 => [(0, .rsl 1 (List.map (encI .i64) a1)), (1, .fn (.func 140) [] [.ptr 0 0, .ptr 1 0]), (7, .int .i64 (a1.length : Int)), (8, .int .i64 s13)]) (Hp := fun s13 => [.cells 3 [.int .i64 a2], .cells 3 [.int .i64 a3]]) h11 ?_ ?_
    ·
      exact Le.ren [0, 1] rfl rfl (by decide) ⟨rfl, rfl, rfl, rfl, trivial⟩
    intro s13 d14 h15 hb12
    refine TC.seq ?_
    refine TC.region ?_
    refine vV (x := (.bool (decide (s13 < (a1.length : Int))))) (OpV.lss rfl rfl rfl) ?_
    refine WO.nil ?_
    refine seqN ?_
    refine TC.seq ?_
    refine TC.condS rfl (fun hc16 => ?_) (fun hc16 => ?_)
    · have h15 := ifF hc16 h15
      refine TC.exit ?_
      refine seqX ?_
      refine loopX h15 ?_
      obtain rfl := hb12 _ (Option.some.inj h15).symm
      refine bloE ?_
      refine cutEN rfl ?_
      exact Le.ren [0, 1] rfl rfl (by decide) trivial
    have h15 := ifT hc16 h15
    refine TC.skip ?_
    refine seqN ?_
    refine TC.seq ?_
    refine TC.block ?_
    refine TC.seq ?_
    refine TC.region ?_
    refine vV (x := (.int .i64 s13)) (OpV.move rfl rfl) ?_
    refine vV (x := (.int .i64 s13)) (OpV.assign rfl rfl) ?_
    refine WO.nil ?_
    refine seqN ?_
    refine TC.seq ?_
    refine TC.region ?_
    refine vV (x := (.fn (.func 140) [] [.ptr 0 0, .ptr 1 0])) (OpV.move rfl rfl) ?_
    refine vV (x := (.rsl 1 (List.map (encI .i64) a1))) (OpV.move rfl rfl) ?_
    refine vV (x := (.int .i64 s13)) (OpV.move rfl rfl) ?_
    obtain ⟨x17, hx17, h15⟩ := bnd h15
    refine vV (x := (.rp [.int .i64 x17])) (OpV.ixM (e := (encI .i64)) (v := x17) hx17 Tryz.runUnderlying39 Tryz.sizeOf3) ?_
    refine vV (x := (.int .i64 x17)) (OpV.load rfl Tryz.isAgg3 rfl Pts.rp) ?_
    obtain ⟨r18, hr18, h15⟩ := bnd h15
    refine WO.callD [0, 1] (OpC.clo Tryz.call140 rfl rfl rfl rfl) (ok_typing_within_1 _ _ _ _ _ hr18) ?_
    rintro _ _ ⟨rfl, rfl⟩
    refine WO.atV (x := (.bool r18)) (H := [.cells 3 [.int .i64 a2], .cells 3 [.int .i64 a3]]) rfl rfl ?_
    refine WO.nil ?_
    refine seqN ?_
    refine TC.cond rfl (fun hc19 => ?_) (fun hc19 => ?_)
    · have h15 := ifT hc19 h15
      refine TC.seq ?_
      refine TC.region ?_
      refine vV (x := (.int .i64 s13)) (OpV.move rfl rfl) ?_
      refine vV (x := (.int .i64 s13)) (OpV.assign rfl rfl) ?_
      refine WO.nil ?_
      refine seqN ?_
      refine TC.ret ?_
      refine bloR ?_
      refine seqR ?_
      refine loopR h15 ?_
      obtain rfl := hb12 _ (Option.some.inj h15).symm
      refine bloR ?_
      refine cutER ?_
      refine seqR ?_
      obtain rfl := Option.some.inj h
      refine ⟨[(4, .int .i64 s13)], [.cells 3 [.int .i64 a2], .cells 3 [.int .i64 a3]], _, ?_, ResOK.one rfl rfl, rfl, rfl⟩
      exact Le.ren [0, 1] rfl rfl (by decide) ⟨rfl, trivial⟩
    have h15 := ifF hc19 h15
    refine TC.skip ?_
    refine bloN ?_
    refine seqN ?_
    refine TC.region ?_
    refine vV (x := (.int .i64 (IntKind.i64.wrap (s13 + 1)))) (OpV.add rfl rfl rfl) ?_
    refine vV (x := (.int .i64 (IntKind.i64.wrap (s13 + 1)))) (OpV.move rfl rfl) ?_
    refine WO.nil ?_
    refine loopN h15 ?_
    exact Le.ren [0, 1] rfl rfl (by decide) ⟨rfl, rfl, rfl, rfl, trivial⟩
  subst hbe
  refine seqN (TC.le hle ?_)
  refine TC.seq ?_
  refine TC.region ?_
  refine vV (x := (.int .i64 (-1))) (OpV.assign rfl rfl) ?_
  refine WO.nil ?_
  refine seqN ?_
  refine TC.ret ?_
  obtain rfl := Option.some.inj h
  refine ⟨[(4, .int .i64 (-1))], [.cells 3 [.int .i64 a2], .cells 3 [.int .i64 a3]], _, ?_, ResOK.one rfl rfl, rfl, rfl⟩
  exact Le.ren [0, 1] rfl rfl (by decide) ⟨rfl, trivial⟩

/- slices.ContainsFunc[[]int,int] -/
def F_slices_ContainsFunc_2 (n : Nat) (a1 : List Int) (a2 : Int) (a3 : Int) : Option Bool :=
  (F_slices_IndexFunc_2 n a1 a2 a3).bind fun r1 => some (decide (0 ≤ r1))
theorem ok_slices_ContainsFunc_2 (n : Nat) (a1 : List Int) (a2 : Int) (a3 : Int) (r : Bool) (h : F_slices_ContainsFunc_2 n a1 a2 a3 = some r) :
    C Tryz.prog 139 [.rsl 1 (List.map (encI .i64) a1), .fn (.func 140) [] [.ptr 0 0, .ptr 1 0]] [.cells 3 [.int .i64 a2], .cells 3 [.int .i64 a3]] (fun a H => a = .bool r ∧ H = [.cells 3 [.int .i64 a2], .cells 3 [.int .i64 a3]]) := by
  refine C.of_body Tryz.func139 rfl rfl rfl ?_
  refine TC.seq ?_
  refine TC.region ?_
  refine vV (x := (.bool false)) (OpV.assign rfl rfl) ?_
  refine WO.nil ?_
  refine seqN ?_
  refine TC.seq ?_
  refine TC.region ?_
  refine vV (x := (.rsl 1 (List.map (encI .i64) a1))) (OpV.move rfl rfl) ?_
  refine vV (x := (.fn (.func 140) [] [.ptr 0 0, .ptr 1 0])) (OpV.move rfl rfl) ?_
  obtain ⟨r1, hr1, h⟩ := bnd h
  refine WO.callD [0, 1] (OpC.fn Tryz.call172 rfl rfl rfl) (ok_slices_IndexFunc_2 _ _ _ _ _ hr1) ?_
  rintro _ _ ⟨rfl, rfl⟩
  refine WO.atV (x := (.int .i64 r1)) (H := [.cells 3 [.int .i64 a2], .cells 3 [.int .i64 a3]]) rfl rfl ?_
  refine vV (x := (.bool (decide (0 ≤ r1)))) (OpV.geq rfl rfl rfl) ?_
  refine vV (x := (.bool (decide (0 ≤ r1)))) (OpV.assign rfl rfl) ?_
  refine WO.nil ?_
  refine seqN ?_
  refine TC.ret ?_
  obtain rfl := Option.some.inj h
  refine ⟨[(4, .bool (decide (0 ≤ r1)))], [.cells 3 [.int .i64 a2], .cells 3 [.int .i64 a3]], _, ?_, ResOK.one rfl rfl, rfl, rfl⟩
  exact Le.ren [0, 1] rfl rfl (by decide) ⟨rfl, trivial⟩

/- stopwatch/typing.within -/
def F_typing_within (n : Nat) (a1 : Int) (a2 : Int) (a3 : List Int) : Option Bool :=
  (F_slices_ContainsFunc_2 n a3 a1 a2).bind fun r1 => some (!r1)
theorem ok_typing_within (n : Nat) (a1 : Int) (a2 : Int) (a3 : List Int) (r : Bool) (h : F_typing_within n a1 a2 a3 = some r) :
    C Tryz.prog 86 [.int .i64 a1, .int .i64 a2, .rsl 1 (List.map (encI .i64) a3)] [] (fun a H => a = .bool r ∧ H = []) := by
  refine C.of_body Tryz.func86 rfl rfl rfl ?_
  refine TC.seq ?_
  refine TC.region ?_
  refine vH (OpH.box rfl rfl rfl rfl rfl) ?_
  refine WO.atV (x := (.ptr 0 0)) (H := [.cells 3 [.int .i64 a1]]) rfl rfl ?_
  refine vH (OpH.box rfl rfl rfl rfl rfl) ?_
  refine WO.atV (x := (.ptr 1 0)) (H := [.cells 3 [.int .i64 a1], .cells 3 [.int .i64 a2]]) rfl rfl ?_
  refine vV (x := (.bool false)) (OpV.assign rfl rfl) ?_
  refine WO.nil ?_
  refine seqN ?_
  refine TC.seq ?_
  refine TC.region ?_
  refine vV (x := (.rsl 1 (List.map (encI .i64) a3))) (OpV.move rfl rfl) ?_
  refine vV (x := (.fn (.func 140) [] [.ptr 0 0, .ptr 1 0])) (OpV.makeFunc (first := []) (cap := [.tmp 3, .tmp 4]) rfl rfl rfl) ?_
  obtain ⟨r1, hr1, h⟩ := bnd h
  refine WO.callD [0, 1] (OpC.fn Tryz.call139 rfl rfl rfl) (ok_slices_ContainsFunc_2 _ _ _ _ _ hr1) ?_
  rintro _ _ ⟨rfl, rfl⟩
  refine WO.atV (x := (.bool r1)) (H := [.cells 3 [.int .i64 a1], .cells 3 [.int .i64 a2]]) rfl rfl ?_
  refine vV (x := (.bool (!r1))) (OpV.not rfl rfl) ?_
  refine vV (x := (.bool (!r1))) (OpV.assign rfl rfl) ?_
  refine WO.nil ?_
  refine seqN ?_
  refine TC.ret ?_
  obtain rfl := Option.some.inj h
  refine ⟨[(6, .bool (!r1))], [], _, ?_, ResOK.one rfl rfl, rfl, rfl⟩
  exact Le.ren [] rfl rfl (by decide) ⟨rfl, trivial⟩

/- stopwatch/typing.numbers$7 -/
def F_typing_numbers_7 (n : Nat) (a1 : Mat) : Option Bool :=
  (F_typing_within n 1 3 [a1.Kind]).bind fun r1 => some r1
theorem ok_typing_numbers_7 (n : Nat) (a1 : Mat) (r : Bool) (h : F_typing_numbers_7 n a1 = some r) :
    C Tryz.prog 95 [.agg (Mat.cells a1)] [] (fun a H => a = .bool r ∧ H = []) := by
  refine C.of_body Tryz.func95 rfl rfl rfl ?_
  refine TC.seq ?_
  refine TC.region ?_
  refine vH (OpH.box rfl rfl rfl rfl rfl) ?_
  refine WO.atV (x := (.ptr 0 0)) (H := [.cells 107 (Mat.cells a1)]) rfl rfl ?_
  refine vV (x := (.bool false)) (OpV.assign rfl rfl) ?_
  refine WO.nil ?_
  refine seqN ?_
  refine TC.seq ?_
  refine TC.region ?_
  refine vV (x := (.ptr 0 1)) (OpV.fieldP fa_107_1 rfl rfl) ?_
  refine vV (x := (.int .i64 a1.Kind)) (OpV.load rfl Tryz.isAgg3 rfl (Pts.cells rfl rfl)) ?_
  refine vH (OpH.lit (xs := [.tmp 4]) (es := List.map (encI .i64) [a1.Kind]) el_39 rfl rfl rfl rfl rfl ⟨rfl, trivial⟩ rfl rfl) ?_
  refine WO.atV (x := (.osl 1 0 ([a1.Kind].length) 1)) (H := [.cells 107 (Mat.cells a1), .row 3 1 (List.map (encI .i64) [a1.Kind])]) rfl rfl ?_
  obtain ⟨r1, hr1, h⟩ := bnd h
  refine WO.callB (OpC.fn Tryz.call86 rfl rfl rfl) (LookL.cons rfl (.inl ⟨rfl, rfl⟩) (LookL.cons rfl (.inl ⟨rfl, rfl⟩) (LookL.cons rfl (.inr ⟨_, _, _, _, _, rfl, rfl, List.length_map .., rfl⟩) LookL.nil))) (ok_typing_within _ _ _ _ _ hr1) (by rintro _ _ ⟨rfl, rfl⟩; rfl) ?_
  rintro _ _ ⟨rfl, rfl⟩
  refine WO.atV (x := (.bool r1)) (H := [.cells 107 (Mat.cells a1), .row 3 1 (List.map (encI .i64) [a1.Kind])]) rfl rfl ?_
  refine vV (x := (.bool r1)) (OpV.assign rfl rfl) ?_
  refine WO.nil ?_
  refine seqN ?_
  refine TC.ret ?_
  obtain rfl := Option.some.inj h
  refine ⟨[(2, .bool r1)], [], _, ?_, ResOK.one rfl rfl, rfl, rfl⟩
  exact Le.ren [] rfl rfl (by decide) ⟨rfl, trivial⟩

/- stopwatch/typing.all[stopwatch/api.Mat]$1 -/
def F_typing_all_2 (n : Nat) (a1 : Mat) : Option Bool :=
  (F_typing_numbers_7 n a1).bind fun r1 => some (!r1)
theorem ok_typing_all_2 (n : Nat) (a1 : Mat) (r : Bool) (h : F_typing_all_2 n a1 = some r) :
    C Tryz.prog 146 [.agg (Mat.cells a1), .ptr 0 0] [.cells 150 [.fn (.func 95) [] []]] (fun a H => a = .bool r ∧ H = [.cells 150 [.fn (.func 95) [] []]]) := by
  refine C.of_body Tryz.func146 rfl rfl rfl ?_
  refine TC.seq ?_
  refine TC.region ?_
  refine vH (OpH.box rfl rfl rfl rfl rfl) ?_
  refine WO.atV (x := (.ptr 1 0)) (H := [.cells 150 [.fn (.func 95) [] []], .cells 107 (Mat.cells a1)]) rfl rfl ?_
  refine vV (x := (.bool false)) (OpV.assign rfl rfl) ?_
  refine WO.nil ?_
  refine seqN ?_
  refine TC.seq ?_
  refine TC.region ?_
  refine vV (x := (.fn (.func 95) [] [])) (OpV.load rfl Tryz.isAgg150 rfl (Pts.cells rfl rfl)) ?_
  refine vV (x := (.agg (Mat.cells a1))) (OpV.loadA rfl Tryz.isAgg107 Tryz.sizeOf107 rfl (Pts.cells rfl rfl) rfl rfl) ?_
  obtain ⟨r1, hr1, h⟩ := bnd h
  refine WO.callD [] (OpC.clo Tryz.call95 rfl rfl rfl rfl) (ok_typing_numbers_7 _ _ _ hr1) ?_
  rintro _ _ ⟨rfl, rfl⟩
  refine WO.atV (x := (.bool r1)) (H := [.cells 150 [.fn (.func 95) [] []], .cells 107 (Mat.cells a1)]) rfl rfl ?_
  refine vV (x := (.bool (!r1))) (OpV.not rfl rfl) ?_
  refine vV (x := (.bool (!r1))) (OpV.assign rfl rfl) ?_
  refine WO.nil ?_
  refine seqN ?_
  refine TC.ret ?_
  obtain rfl := Option.some.inj h
  refine ⟨[(3, .bool (!r1))], [.cells 150 [.fn (.func 95) [] []]], _, ?_, ResOK.one rfl rfl, rfl, rfl⟩
  exact Le.ren [0] rfl rfl (by decide) ⟨rfl, trivial⟩

/- slices.IndexFunc[[]stopwatch/api.Mat,stopwatch/api.Mat] -/
def F_slices_IndexFunc_L1 (n : Nat) (a1 : List Mat) (s13 : Int) : Option (Ctl Int (Ctl Unit Int)) :=
  (bif decide (s13 < (a1.length : Int)) then (idx a1 s13).bind fun x17 => (F_typing_all_2 n x17).bind fun r18 => (bif r18 then some (.done (.done s13)) else some (.cont (IntKind.i64.wrap (s13 + 1)))) else some (.done (.cont ())))
def F_slices_IndexFunc (n : Nat) (a1 : List Mat) : Option Int :=
  (iter (F_slices_IndexFunc_L1 n a1) n 0 : Option (Ctl Unit Int)).bind fun b10 => match b10 with | .cont sb10 => (some (-1)) | .done sb10 => some sb10
theorem ok_slices_IndexFunc (n : Nat) (a1 : List Mat) (r : Int) (h : F_slices_IndexFunc n a1 = some r) :
    C Tryz.prog 175 [.rsl 2 (List.map Mat.cells a1), .fn (.func 146) [] [.ptr 0 0]] [.cells 150 [.fn (.func 95) [] []]] (fun a H => a = .int .i64 r ∧ H = [.cells 150 [.fn (.func 95) [] []]]) := by
  refine C.of_body Tryz.func175 rfl rfl rfl ?_
  refine TC.seq ?_
  refine TC.region ?_
  refine vV (x := (.int .i64 0)) (OpV.assign rfl rfl) ?_
  refine WO.nil ?_
  refine seqN ?_
  refine TC.seq ?_
  refine TC.seq ?_
  refine TC.region ?_
  refine vV (x := (.rsl 2 (List.map Mat.cells a1))) (OpV.move rfl rfl) ?_
  refine vV (x := (.int .i64 (a1.length : Int))) (OpV.lenM Tryz.runUnderlying22) ?_
  refine vV (x := (.int .i64 0)) (OpV.move rfl rfl) ?_
  refine WO.nil ?_
  refine seqN ?_
  obtain ⟨b10, h11, h⟩ := bnd h
  refine TC.cutE (b := b10) (fun sb10 => []) (fun sb10 => [.cells 150 [.fn (.func 95) [] []]]) ?_ (fun sb10 env H hbe hle => ?_)
  ·
    refine TC.block ?_
    refine TC.loop (E := fun s13 => [(0, .rsl 2 (List.map Mat.cells a1)), (1, .fn (.func 146) [] [.ptr 0 0]), (7, .int .i64 (a1.length : Int)), (8, .int .i64 s13)]) (Hp := fun s13 => [.cells 150 [.fn (.func 95) [] []]]) h11 ?_ ?_
    ·
      exact Le.ren [0] rfl rfl (by decide) ⟨rfl, rfl, rfl, rfl, trivial⟩
    intro s13 d14 h15 hb12
    refine TC.seq ?_
    refine TC.region ?_
    refine vV (x := (.bool (decide (s13 < (a1.length : Int))))) (OpV.lss rfl rfl rfl) ?_
    refine WO.nil ?_
    refine seqN ?_
    refine TC.seq ?_
    refine TC.condS rfl (fun hc16 => ?_) (fun hc16 => ?_)
    · have h15 := ifF hc16 h15
      refine TC.exit ?_
      refine seqX ?_
      refine loopX h15 ?_
      obtain rfl := hb12 _ (Option.some.inj h15).symm
      refine bloE ?_
      refine cutEN rfl ?_
      exact Le.ren [0] rfl rfl (by decide) trivial
    have h15 := ifT hc16 h15
    refine TC.skip ?_
    refine seqN ?_
    refine TC.seq ?_
    refine TC.block ?_
    refine TC.seq ?_
    refine TC.region ?_
    refine vV (x := (.int .i64 s13)) (OpV.move rfl rfl) ?_
    refine vV (x := (.int .i64 s13)) (OpV.assign rfl rfl) ?_
    refine WO.nil ?_
    refine seqN ?_
    refine TC.seq ?_
    refine TC.region ?_
    refine vV (x := (.fn (.func 146) [] [.ptr 0 0])) (OpV.move rfl rfl) ?_
    refine vV (x := (.rsl 2 (List.map Mat.cells a1))) (OpV.move rfl rfl) ?_
    refine vV (x := (.int .i64 s13)) (OpV.move rfl rfl) ?_
    obtain ⟨x17, hx17, h15⟩ := bnd h15
    refine vV (x := (.rp [.str x17.Name, .int .i64 x17.Kind])) (OpV.ixM (e := Mat.cells) (v := x17) hx17 Tryz.runUnderlying22 Tryz.sizeOf107) ?_
    refine vV (x := (.agg (Mat.cells x17))) (OpV.loadA rfl Tryz.isAgg107 Tryz.sizeOf107 rfl Pts.rp rfl rfl) ?_
    obtain ⟨r18, hr18, h15⟩ := bnd h15
    refine WO.callD [0] (OpC.clo Tryz.call146 rfl rfl rfl rfl) (ok_typing_all_2 _ _ _ hr18) ?_
    rintro _ _ ⟨rfl, rfl⟩
    refine WO.atV (x := (.bool r18)) (H := [.cells 150 [.fn (.func 95) [] []]]) rfl rfl ?_
    refine WO.nil ?_
    refine seqN ?_
    refine TC.cond rfl (fun hc19 => ?_) (fun hc19 => ?_)
    · have h15 := ifT hc19 h15
      refine TC.seq ?_
      refine TC.region ?_
      refine vV (x := (.int .i64 s13)) (OpV.move rfl rfl) ?_
      refine vV (x := (.int .i64 s13)) (OpV.assign rfl rfl) ?_
      refine WO.nil ?_
      refine seqN ?_
      refine TC.ret ?_
      refine bloR ?_
      refine seqR ?_
      refine loopR h15 ?_
      obtain rfl := hb12 _ (Option.some.inj h15).symm
      refine bloR ?_
      refine cutER ?_
      refine seqR ?_
      obtain rfl := Option.some.inj h
      refine ⟨[(4, .int .i64 s13)], [.cells 150 [.fn (.func 95) [] []]], _, ?_, ResOK.one rfl rfl, rfl, rfl⟩
      exact Le.ren [0] rfl rfl (by decide) ⟨rfl, trivial⟩
    have h15 := ifF hc19 h15
    refine TC.skip ?_
    refine bloN ?_
    refine seqN ?_
    refine TC.region ?_
    refine vV (x := (.int .i64 (IntKind.i64.wrap (s13 + 1)))) (OpV.add rfl rfl rfl) ?_
    refine vV (x := (.int .i64 (IntKind.i64.wrap (s13 + 1)))) (OpV.move rfl rfl) ?_
    refine WO.nil ?_
    refine loopN h15 ?_
    exact Le.ren [0] rfl rfl (by decide) ⟨rfl, rfl, rfl, rfl, trivial⟩
  subst hbe
  refine seqN (TC.le hle ?_)
  refine TC.seq ?_
  refine TC.region ?_
  refine vV (x := (.int .i64 (-1))) (OpV.assign rfl rfl) ?_
  refine WO.nil ?_
  refine seqN ?_
  refine TC.ret ?_
  obtain rfl := Option.some.inj h
  refine ⟨[(4, .int .i64 (-1))], [.cells 150 [.fn (.func 95) [] []]], _, ?_, ResOK.one rfl rfl, rfl, rfl⟩
  exact Le.ren [0] rfl rfl (by decide) ⟨rfl, trivial⟩

/- slices.ContainsFunc[[]stopwatch/api.Mat,stopwatch/api.Mat] -/
def F_slices_ContainsFunc (n : Nat) (a1 : List Mat) : Option Bool :=
  (F_slices_IndexFunc n a1).bind fun r1 => some (decide (0 ≤ r1))
theorem ok_slices_ContainsFunc (n : Nat) (a1 : List Mat) (r : Bool) (h : F_slices_ContainsFunc n a1 = some r) :
    C Tryz.prog 145 [.rsl 2 (List.map Mat.cells a1), .fn (.func 146) [] [.ptr 0 0]] [.cells 150 [.fn (.func 95) [] []]] (fun a H => a = .bool r ∧ H = [.cells 150 [.fn (.func 95) [] []]]) := by
  refine C.of_body Tryz.func145 rfl rfl rfl ?_
  refine TC.seq ?_
  refine TC.region ?_
  refine vV (x := (.bool false)) (OpV.assign rfl rfl) ?_
  refine WO.nil ?_
  refine seqN ?_
  refine TC.seq ?_
  refine TC.region ?_
  refine vV (x := (.rsl 2 (List.map Mat.cells a1))) (OpV.move rfl rfl) ?_
  refine vV (x := (.fn (.func 146) [] [.ptr 0 0])) (OpV.move rfl rfl) ?_
  obtain ⟨r1, hr1, h⟩ := bnd h
  refine WO.callD [0] (OpC.fn Tryz.call175 rfl rfl rfl) (ok_slices_IndexFunc _ _ _ hr1) ?_
  rintro _ _ ⟨rfl, rfl⟩
  refine WO.atV (x := (.int .i64 r1)) (H := [.cells 150 [.fn (.func 95) [] []]]) rfl rfl ?_
  refine vV (x := (.bool (decide (0 ≤ r1)))) (OpV.geq rfl rfl rfl) ?_
  refine vV (x := (.bool (decide (0 ≤ r1)))) (OpV.assign rfl rfl) ?_
  refine WO.nil ?_
  refine seqN ?_
  refine TC.ret ?_
  obtain rfl := Option.some.inj h
  refine ⟨[(4, .bool (decide (0 ≤ r1)))], [.cells 150 [.fn (.func 95) [] []]], _, ?_, ResOK.one rfl rfl, rfl, rfl⟩
  exact Le.ren [0] rfl rfl (by decide) ⟨rfl, trivial⟩

/- stopwatch/typing.all[stopwatch/api.Mat] -/
def F_typing_all (n : Nat) (a1 : List Mat) : Option Bool :=
  (F_slices_ContainsFunc n a1).bind fun r1 => some (!r1)
theorem ok_typing_all (n : Nat) (a1 : List Mat) (r : Bool) (h : F_typing_all n a1 = some r) :
    C Tryz.prog 94 [.rsl 2 (List.map Mat.cells a1), .fn (.func 95) [] []] [] (fun a H => a = .bool r ∧ H = []) := by
  refine C.of_body Tryz.func94 rfl rfl rfl ?_
  refine TC.seq ?_
  refine TC.region ?_
  refine vH (OpH.box rfl rfl rfl rfl rfl) ?_
  refine WO.atV (x := (.ptr 0 0)) (H := [.cells 150 [.fn (.func 95) [] []]]) rfl rfl ?_
  refine vV (x := (.bool false)) (OpV.assign rfl rfl) ?_
  refine WO.nil ?_
  refine seqN ?_
  refine TC.seq ?_
  refine TC.region ?_
  refine vV (x := (.rsl 2 (List.map Mat.cells a1))) (OpV.move rfl rfl) ?_
  refine vV (x := (.fn (.func 146) [] [.ptr 0 0])) (OpV.makeFunc (first := []) (cap := [.tmp 3]) rfl rfl rfl) ?_
  obtain ⟨r1, hr1, h⟩ := bnd h
  refine WO.callD [0] (OpC.fn Tryz.call145 rfl rfl rfl) (ok_slices_ContainsFunc _ _ _ hr1) ?_
  rintro _ _ ⟨rfl, rfl⟩
  refine WO.atV (x := (.bool r1)) (H := [.cells 150 [.fn (.func 95) [] []]]) rfl rfl ?_
  refine vV (x := (.bool (!r1))) (OpV.not rfl rfl) ?_
  refine vV (x := (.bool (!r1))) (OpV.assign rfl rfl) ?_
  refine WO.nil ?_
  refine seqN ?_
  refine TC.ret ?_
  obtain rfl := Option.some.inj h
  refine ⟨[(4, .bool (!r1))], [], _, ?_, ResOK.one rfl rfl, rfl, rfl⟩
  exact Le.ren [] rfl rfl (by decide) ⟨rfl, trivial⟩

/- stopwatch/typing.numbers$4 -/
def F_typing_numbers_4 (n : Nat) (a1 : Leg) (a2 : Int) : Option Bool :=
  ((F_typing_within n 0 a2 [a1.From, a1.To]).bind fun r7 => (bif r7 then (F_typing_within n 0 68719476736 [a1.Min, a1.Max]).bind fun r9 => (bif r9 then some (decide (a1.Min ≤ a1.Max)) else some false) else some false) : Option Bool).bind fun b5 => some b5
theorem ok_typing_numbers_4 (n : Nat) (a1 : Leg) (a2 : Int) (r : Bool) (h : F_typing_numbers_4 n a1 a2 = some r) :
    C Tryz.prog 91 [.agg (Leg.cells a1), .ptr 0 0] [.cells 3 [.int .i64 a2]] (fun a H => a = .bool r ∧ H = [.cells 3 [.int .i64 a2]]) := by
  refine C.of_body Tryz.func91 rfl rfl rfl ?_
  refine TC.seq ?_
  refine TC.region ?_
  refine vH (OpH.box rfl rfl rfl rfl rfl) ?_
  refine WO.atV (x := (.ptr 1 0)) (H := [.cells 3 [.int .i64 a2], .cells 90 (Leg.cells a1)]) rfl rfl ?_
  refine vV (x := (.bool false)) (OpV.assign rfl rfl) ?_
  refine WO.nil ?_
  refine seqN ?_
  refine TC.seq ?_
  obtain ⟨b5, h6, h⟩ := bnd h
  refine TC.cut ([(3, .bool b5)]) ([.cells 3 [.int .i64 a2]]) ?_ (fun env H hle => ?_)
  ·
    refine TC.region ?_
    refine vV (x := (.int .i64 a2)) (OpV.load rfl Tryz.isAgg3 rfl (Pts.cells rfl rfl)) ?_
    refine vV (x := (.ptr 1 0)) (OpV.fieldP fa_90_0 rfl rfl) ?_
    refine vV (x := (.int .i64 a1.From)) (OpV.load rfl Tryz.isAgg3 rfl (Pts.cells rfl rfl)) ?_
    refine vV (x := (.ptr 1 1)) (OpV.fieldP fa_90_1 rfl rfl) ?_
    refine vV (x := (.int .i64 a1.To)) (OpV.load rfl Tryz.isAgg3 rfl (Pts.cells rfl rfl)) ?_
    refine vH (OpH.lit (xs := [.tmp 6, .tmp 8]) (es := List.map (encI .i64) [a1.From, a1.To]) el_39 rfl rfl rfl rfl rfl ⟨rfl, rfl, trivial⟩ rfl rfl) ?_
    refine WO.atV (x := (.osl 2 0 ([a1.From, a1.To].length) 1)) (H := [.cells 3 [.int .i64 a2], .cells 90 (Leg.cells a1), .row 3 1 (List.map (encI .i64) [a1.From, a1.To])]) rfl rfl ?_
    obtain ⟨r7, hr7, h6⟩ := bnd h6
    refine WO.callB (OpC.fn Tryz.call86 rfl rfl rfl) (LookL.cons rfl (.inl ⟨rfl, rfl⟩) (LookL.cons rfl (.inl ⟨rfl, rfl⟩) (LookL.cons rfl (.inr ⟨_, _, _, _, _, rfl, rfl, List.length_map .., rfl⟩) LookL.nil))) (ok_typing_within _ _ _ _ _ hr7) (by rintro _ _ ⟨rfl, rfl⟩; rfl) ?_
    rintro _ _ ⟨rfl, rfl⟩
    refine WO.atV (x := (.bool r7)) (H := [.cells 3 [.int .i64 a2], .cells 90 (Leg.cells a1), .row 3 1 (List.map (encI .i64) [a1.From, a1.To])]) rfl rfl ?_
    refine vV (x := (.bool r7)) (OpV.move rfl rfl) ?_
    rcases bTF (r7) with hg8 | hg8
    · have h6 := ifT hg8 h6
      refine vV (x := (.ptr 1 2)) (OpV.fieldP fa_90_2 rfl rfl) ?_ (gT hg8)
      refine vV (x := (.int .i64 a1.Min)) (OpV.load rfl Tryz.isAgg3 rfl (Pts.cells rfl rfl)) ?_ (gT hg8)
      refine vV (x := (.ptr 1 3)) (OpV.fieldP fa_90_3 rfl rfl) ?_ (gT hg8)
      refine vV (x := (.int .i64 a1.Max)) (OpV.load rfl Tryz.isAgg3 rfl (Pts.cells rfl rfl)) ?_ (gT hg8)
      refine vH (OpH.lit (xs := [.tmp 13, .tmp 15]) (es := List.map (encI .i64) [a1.Min, a1.Max]) el_39 rfl rfl rfl rfl rfl ⟨rfl, rfl, trivial⟩ rfl rfl) ?_ (gT hg8)
      refine WO.atV (x := (.osl 3 0 ([a1.Min, a1.Max].length) 1)) (H := [.cells 3 [.int .i64 a2], .cells 90 (Leg.cells a1), .row 3 1 (List.map (encI .i64) [a1.From, a1.To]), .row 3 1 (List.map (encI .i64) [a1.Min, a1.Max])]) rfl rfl ?_
      obtain ⟨r9, hr9, h6⟩ := bnd h6
      refine WO.callB (OpC.fn Tryz.call86 rfl rfl rfl) (LookL.cons rfl (.inl ⟨rfl, rfl⟩) (LookL.cons rfl (.inl ⟨rfl, rfl⟩) (LookL.cons rfl (.inr ⟨_, _, _, _, _, rfl, rfl, List.length_map .., rfl⟩) LookL.nil))) (ok_typing_within _ _ _ _ _ hr9) (by rintro _ _ ⟨rfl, rfl⟩; rfl) ?_ (gT hg8)
      rintro _ _ ⟨rfl, rfl⟩
      refine WO.atV (x := (.bool r9)) (H := [.cells 3 [.int .i64 a2], .cells 90 (Leg.cells a1), .row 3 1 (List.map (encI .i64) [a1.From, a1.To]), .row 3 1 (List.map (encI .i64) [a1.Min, a1.Max])]) rfl rfl ?_
      refine vV (x := (.bool r9)) (OpV.pickT hg8) ?_
      refine vV (x := (.bool r9)) (OpV.move rfl rfl) ?_
      rcases bTF (r9) with hg10 | hg10
      · have h6 := ifT hg10 h6
        refine vV (x := (.ptr 1 2)) (OpV.fieldP fa_90_2 rfl rfl) ?_ (gT hg10)
        refine vV (x := (.int .i64 a1.Min)) (OpV.load rfl Tryz.isAgg3 rfl (Pts.cells rfl rfl)) ?_ (gT hg10)
        refine vV (x := (.ptr 1 3)) (OpV.fieldP fa_90_3 rfl rfl) ?_ (gT hg10)
        refine vV (x := (.int .i64 a1.Max)) (OpV.load rfl Tryz.isAgg3 rfl (Pts.cells rfl rfl)) ?_ (gT hg10)
        refine vV (x := (.bool (decide (a1.Min ≤ a1.Max)))) (OpV.leq rfl rfl rfl) ?_ (gT hg10)
        refine vV (x := (.bool (decide (a1.Min ≤ a1.Max)))) (OpV.pickT hg10) ?_
        refine vV (x := (.bool (decide (a1.Min ≤ a1.Max)))) (OpV.assign rfl rfl) ?_
        refine WO.nil ?_
        obtain rfl := Option.some.inj h6
        refine cutN ?_
        exact Le.ren [0] rfl rfl (by decide) ⟨rfl, trivial⟩
      · have h6 := ifF hg10 h6
        refine vS (gF hg10) ?_
        refine vS (gF hg10) ?_
        refine vS (gF hg10) ?_
        refine vS (gF hg10) ?_
        refine vS (gF hg10) ?_
        refine vV (x := (.bool false)) (OpV.pickF hg10) ?_
        refine vV (x := (.bool false)) (OpV.assign rfl rfl) ?_
        refine WO.nil ?_
        obtain rfl := Option.some.inj h6
        refine cutN ?_
        exact Le.ren [0] rfl rfl (by decide) ⟨rfl, trivial⟩
    · have h6 := ifF hg8 h6
      refine vS (gF hg8) ?_
      refine vS (gF hg8) ?_
      refine vS (gF hg8) ?_
      refine vS (gF hg8) ?_
      refine vS (gF hg8) ?_
      refine vS (gF hg8) ?_
      refine vV (x := (.bool false)) (OpV.pickF hg8) ?_
      refine vV (x := (.bool false)) (OpV.move rfl rfl) ?_
      refine vS (gF rfl) ?_
      refine vS (gF rfl) ?_
      refine vS (gF rfl) ?_
      refine vS (gF rfl) ?_
      refine vS (gF rfl) ?_
      refine vV (x := (.bool false)) (OpV.pickF rfl) ?_
      refine vV (x := (.bool false)) (OpV.assign rfl rfl) ?_
      refine WO.nil ?_
      obtain rfl := Option.some.inj h6
      refine cutN ?_
      exact Le.ren [0] rfl rfl (by decide) ⟨rfl, trivial⟩
  refine seqN (TC.le hle ?_)
  refine TC.ret ?_
  obtain rfl := Option.some.inj h
  refine ⟨[(3, .bool b5)], [.cells 3 [.int .i64 a2]], _, ?_, ResOK.one rfl rfl, rfl, rfl⟩
  exact Le.ren [0] rfl rfl (by decide) ⟨rfl, trivial⟩

/- stopwatch/typing.all[stopwatch/api.Leg]$1 -/
def F_typing_all_4 (n : Nat) (a1 : Leg) (a2 : Int) : Option Bool :=
  (F_typing_numbers_4 n a1 a2).bind fun r1 => some (!r1)
theorem ok_typing_all_4 (n : Nat) (a1 : Leg) (a2 : Int) (r : Bool) (h : F_typing_all_4 n a1 a2 = some r) :
    C Tryz.prog 148 [.agg (Leg.cells a1), .ptr 0 0] [.cells 146 [.fn (.func 91) [] [.ptr 1 0]], .cells 3 [.int .i64 a2]] (fun a H => a = .bool r ∧ H = [.cells 146 [.fn (.func 91) [] [.ptr 1 0]], .cells 3 [.int .i64 a2]]) := by
  refine C.of_body Tryz.func148 rfl rfl rfl ?_
  refine TC.seq ?_
  refine TC.region ?_
  refine vH (OpH.box rfl rfl rfl rfl rfl) ?_
  refine WO.atV (x := (.ptr 2 0)) (H := [.cells 146 [.fn (.func 91) [] [.ptr 1 0]], .cells 3 [.int .i64 a2], .cells 90 (Leg.cells a1)]) rfl rfl ?_
  refine vV (x := (.bool false)) (OpV.assign rfl rfl) ?_
  refine WO.nil ?_
  refine seqN ?_
  refine TC.seq ?_
  refine TC.region ?_
  refine vV (x := (.fn (.func 91) [] [.ptr 1 0])) (OpV.load rfl Tryz.isAgg146 rfl (Pts.cells rfl rfl)) ?_
  refine vV (x := (.agg (Leg.cells a1))) (OpV.loadA rfl Tryz.isAgg90 Tryz.sizeOf90 rfl (Pts.cells rfl rfl) rfl rfl) ?_
  obtain ⟨r1, hr1, h⟩ := bnd h
  refine WO.callD [1] (OpC.clo Tryz.call91 rfl rfl rfl rfl) (ok_typing_numbers_4 _ _ _ _ hr1) ?_
  rintro _ _ ⟨rfl, rfl⟩
  refine WO.atV (x := (.bool r1)) (H := [.cells 146 [.fn (.func 91) [] [.ptr 1 0]], .cells 3 [.int .i64 a2], .cells 90 (Leg.cells a1)]) rfl rfl ?_
  refine vV (x := (.bool (!r1))) (OpV.not rfl rfl) ?_
  refine vV (x := (.bool (!r1))) (OpV.assign rfl rfl) ?_
  refine WO.nil ?_
  refine seqN ?_
  refine TC.ret ?_
  obtain rfl := Option.some.inj h
  refine ⟨[(3, .bool (!r1))], [.cells 146 [.fn (.func 91) [] [.ptr 1 0]], .cells 3 [.int .i64 a2]], _, ?_, ResOK.one rfl rfl, rfl, rfl⟩
  exact Le.ren [0, 1] rfl rfl (by decide) ⟨rfl, trivial⟩

/- slices.IndexFunc[[]stopwatch/api.Leg,stopwatch/api.Leg] -/
def F_slices_IndexFunc_3_L1 (n : Nat) (a1 : List Leg) (a2 : Int) (s13 : Int) : Option (Ctl Int (Ctl Unit Int)) :=
  (bif decide (s13 < (a1.length : Int)) then (idx a1 s13).bind fun x17 => (F_typing_all_4 n x17 a2).bind fun r18 => (bif r18 then some (.done (.done s13)) else some (.cont (IntKind.i64.wrap (s13 + 1)))) else some (.done (.cont ())))
def F_slices_IndexFunc_3 (n : Nat) (a1 : List Leg) (a2 : Int) : Option Int :=
  (iter (F_slices_IndexFunc_3_L1 n a1 a2) n 0 : Option (Ctl Unit Int)).bind fun b10 => match b10 with | .cont sb10 => (some (-1)) | .done sb10 => some sb10
theorem ok_slices_IndexFunc_3 (n : Nat) (a1 : List Leg) (a2 : Int) (r : Int) (h : F_slices_IndexFunc_3 n a1 a2 = some r) :
    C Tryz.prog 176 [.rsl 4 (List.map Leg.cells a1), .fn (.func 148) [] [.ptr 0 0]] [.cells 146 [.fn (.func 91) [] [.ptr 1 0]], .cells 3 [.int .i64 a2]] (fun a H => a = .int .i64 r ∧ H = [.cells 146 [.fn (.func 91) [] [.ptr 1 0]], .cells 3 [.int .i64 a2]]) := by
  refine C.of_body Tryz.func176 rfl rfl rfl ?_
  refine TC.seq ?_
  refine TC.region ?_
  refine vV (x := (.int .i64 0)) (OpV.assign rfl rfl) ?_
  refine WO.nil ?_
  refine seqN ?_
  refine TC.seq ?_
  refine TC.seq ?_
  refine TC.region ?_
  refine vV (x := (.rsl 4 (List.map Leg.cells a1))) (OpV.move rfl rfl) ?_
  refine vV (x := (.int .i64 (a1.length : Int))) (OpV.lenM Tryz.runUnderlying23) ?_
  refine vV (x := (.int .i64 0)) (OpV.move rfl rfl) ?_
  refine WO.nil ?_
  refine seqN ?_
  obtain ⟨b10, h11, h⟩ := bnd h
  refine TC.cutE (b := b10) (fun sb10 => []) (fun sb10 => [.cells 146 [.fn (.func 91) [] [.ptr 1 0]], .cells 3 [.int .i64 a2]]) ?_ (fun sb10 env H hbe hle => ?_)
  ·
    refine TC.block ?_
    refine TC.loop (E := fun s13 => [(0, .rsl 4 (List.map Leg.cells a1)), (1, .fn (.func 148) [] [.ptr 0 0]), (7, .int .i64 (a1.length : Int)), (8, .int .i64 s13)]) (Hp := fun s13 => [.cells 146 [.fn (.func 91) [] [.ptr 1 0]], .cells 3 [.int .i64 a2]]) h11 ?_ ?_
    ·
      exact Le.ren [0, 1] rfl rfl (by decide) ⟨rfl, rfl, rfl, rfl, trivial⟩
    intro s13 d14 h15 hb12
    refine TC.seq ?_
    refine TC.region ?_
    refine vV (x := (.bool (decide (s13 < (a1.length : Int))))) (OpV.lss rfl rfl rfl) ?_
    refine WO.nil ?_
    refine seqN ?_
    refine TC.seq ?_
    refine TC.condS rfl (fun hc16 => ?_) (fun hc16 => ?_)
    · have h15 := ifF hc16 h15
      refine TC.exit ?_
      refine seqX ?_
      refine loopX h15 ?_
      obtain rfl := hb12 _ (Option.some.inj h15).symm
      refine bloE ?_
      refine cutEN rfl ?_
      exact Le.ren [0, 1] rfl rfl (by decide) trivial
    have h15 := ifT hc16 h15
    refine TC.skip ?_
    refine seqN ?_
    refine TC.seq ?_
    refine TC.block ?_
    refine TC.seq ?_
    refine TC.region ?_
    refine vV (x := (.int .i64 s13)) (OpV.move rfl rfl) ?_
    refine vV (x := (.int .i64 s13)) (OpV.assign rfl rfl) ?_
    refine WO.nil ?_
    refine seqN ?_
    refine TC.seq ?_
    refine TC.region ?_
    refine vV (x := (.fn (.func 148) [] [.ptr 0 0])) (OpV.move rfl rfl) ?_
    refine vV (x := (.rsl 4 (List.map Leg.cells a1))) (OpV.move rfl rfl) ?_
    refine vV (x := (.int .i64 s13)) (OpV.move rfl rfl) ?_
    obtain ⟨x17, hx17, h15⟩ := bnd h15
    refine vV (x := (.rp [.int .i64 x17.From, .int .i64 x17.To, .int .i64 x17.Min, .int .i64 x17.Max])) (OpV.ixM (e := Leg.cells) (v := x17) hx17 Tryz.runUnderlying23 Tryz.sizeOf90) ?_
    refine vV (x := (.agg (Leg.cells x17))) (OpV.loadA rfl Tryz.isAgg90 Tryz.sizeOf90 rfl Pts.rp rfl rfl) ?_
    obtain ⟨r18, hr18, h15⟩ := bnd h15
    refine WO.callD [0, 1] (OpC.clo Tryz.call148 rfl rfl rfl rfl) (ok_typing_all_4 _ _ _ _ hr18) ?_
    rintro _ _ ⟨rfl, rfl⟩
    refine WO.atV (x := (.bool r18)) (H := [.cells 146 [.fn (.func 91) [] [.ptr 1 0]], .cells 3 [.int .i64 a2]]) rfl rfl ?_
    refine WO.nil ?_
    refine seqN ?_
    refine TC.cond rfl (fun hc19 => ?_) (fun hc19 => ?_)
    · have h15 := ifT hc19 h15
      refine TC.seq ?_
      refine TC.region ?_
      refine vV (x := (.int .i64 s13)) (OpV.move rfl rfl) ?_
      refine vV (x := (.int .i64 s13)) (OpV.assign rfl rfl) ?_
      refine WO.nil ?_
      refine seqN ?_
      refine TC.ret ?_
      refine bloR ?_
      refine seqR ?_
      refine loopR h15 ?_
      obtain rfl := hb12 _ (Option.some.inj h15).symm
      refine bloR ?_
      refine cutER ?_
      refine seqR ?_
      obtain rfl := Option.some.inj h
      refine ⟨[(4, .int .i64 s13)], [.cells 146 [.fn (.func 91) [] [.ptr 1 0]], .cells 3 [.int .i64 a2]], _, ?_, ResOK.one rfl rfl, rfl, rfl⟩
      exact Le.ren [0, 1] rfl rfl (by decide) ⟨rfl, trivial⟩
    have h15 := ifF hc19 h15
    refine TC.skip ?_
    refine bloN ?_
    refine seqN ?_
    refine TC.region ?_
    refine vV (x := (.int .i64 (IntKind.i64.wrap (s13 + 1)))) (OpV.add rfl rfl rfl) ?_
    refine vV (x := (.int .i64 (IntKind.i64.wrap (s13 + 1)))) (OpV.move rfl rfl) ?_
    refine WO.nil ?_
    refine loopN h15 ?_
    exact Le.ren [0, 1] rfl rfl (by decide) ⟨rfl, rfl, rfl, rfl, trivial⟩
  subst hbe
  refine seqN (TC.le hle ?_)
  refine TC.seq ?_
  refine TC.region ?_
  refine vV (x := (.int .i64 (-1))) (OpV.assign rfl rfl) ?_
  refine WO.nil ?_
  refine seqN ?_
  refine TC.ret ?_
  obtain rfl := Option.some.inj h
  refine ⟨[(4, .int .i64 (-1))], [.cells 146 [.fn (.func 91) [] [.ptr 1 0]], .cells 3 [.int .i64 a2]], _, ?_, ResOK.one rfl rfl, rfl, rfl⟩
  exact Le.ren [0, 1] rfl rfl (by decide) ⟨rfl, trivial⟩

/- slices.ContainsFunc[[]stopwatch/api.Leg,stopwatch/api.Leg] -/
def F_slices_ContainsFunc_3 (n : Nat) (a1 : List Leg) (a2 : Int) : Option Bool :=
  (F_slices_IndexFunc_3 n a1 a2).bind fun r1 => some (decide (0 ≤ r1))
theorem ok_slices_ContainsFunc_3 (n : Nat) (a1 : List Leg) (a2 : Int) (r : Bool) (h : F_slices_ContainsFunc_3 n a1 a2 = some r) :
    C Tryz.prog 147 [.rsl 4 (List.map Leg.cells a1), .fn (.func 148) [] [.ptr 0 0]] [.cells 146 [.fn (.func 91) [] [.ptr 1 0]], .cells 3 [.int .i64 a2]] (fun a H => a = .bool r ∧ H = [.cells 146 [.fn (.func 91) [] [.ptr 1 0]], .cells 3 [.int .i64 a2]]) := by
  refine C.of_body Tryz.func147 rfl rfl rfl ?_
  refine TC.seq ?_
  refine TC.region ?_
  refine vV (x := (.bool false)) (OpV.assign rfl rfl) ?_
  refine WO.nil ?_
  refine seqN ?_
  refine TC.seq ?_
  refine TC.region ?_
  refine vV (x := (.rsl 4 (List.map Leg.cells a1))) (OpV.move rfl rfl) ?_
  refine vV (x := (.fn (.func 148) [] [.ptr 0 0])) (OpV.move rfl rfl) ?_
  obtain ⟨r1, hr1, h⟩ := bnd h
  refine WO.callD [0, 1] (OpC.fn Tryz.call176 rfl rfl rfl) (ok_slices_IndexFunc_3 _ _ _ _ hr1) ?_
  rintro _ _ ⟨rfl, rfl⟩
  refine WO.atV (x := (.int .i64 r1)) (H := [.cells 146 [.fn (.func 91) [] [.ptr 1 0]], .cells 3 [.int .i64 a2]]) rfl rfl ?_
  refine vV (x := (.bool (decide (0 ≤ r1)))) (OpV.geq rfl rfl rfl) ?_
  refine vV (x := (.bool (decide (0 ≤ r1)))) (OpV.assign rfl rfl) ?_
  refine WO.nil ?_
  refine seqN ?_
  refine TC.ret ?_
  obtain rfl := Option.some.inj h
  refine ⟨[(4, .bool (decide (0 ≤ r1)))], [.cells 146 [.fn (.func 91) [] [.ptr 1 0]], .cells 3 [.int .i64 a2]], _, ?_, ResOK.one rfl rfl, rfl, rfl⟩
  exact Le.ren [0, 1] rfl rfl (by decide) ⟨rfl, trivial⟩

/- stopwatch/typing.all[stopwatch/api.Leg] -/
def F_typing_all_3 (n : Nat) (a1 : List Leg) (a2 : Int) : Option Bool :=
  (F_slices_ContainsFunc_3 n a1 a2).bind fun r1 => some (!r1)
theorem ok_typing_all_3 (n : Nat) (a1 : List Leg) (a2 : Int) (r : Bool) (h : F_typing_all_3 n a1 a2 = some r) :
    C Tryz.prog 96 [.rsl 4 (List.map Leg.cells a1), .fn (.func 91) [] [.ptr 0 0]] [.cells 3 [.int .i64 a2]] (fun a H => a = .bool r ∧ H = [.cells 3 [.int .i64 a2]]) := by
  refine C.of_body Tryz.func96 rfl rfl rfl ?_
  refine TC.seq ?_
  refine TC.region ?_
  refine vH (OpH.box rfl rfl rfl rfl rfl) ?_
  refine WO.atV (x := (.ptr 1 0)) (H := [.cells 3 [.int .i64 a2], .cells 146 [.fn (.func 91) [] [.ptr 0 0]]]) rfl rfl ?_
  refine vV (x := (.bool false)) (OpV.assign rfl rfl) ?_
  refine WO.nil ?_
  refine seqN ?_
  refine TC.seq ?_
  refine TC.region ?_
  refine vV (x := (.rsl 4 (List.map Leg.cells a1))) (OpV.move rfl rfl) ?_
  refine vV (x := (.fn (.func 148) [] [.ptr 1 0])) (OpV.makeFunc (first := []) (cap := [.tmp 3]) rfl rfl rfl) ?_
  obtain ⟨r1, hr1, h⟩ := bnd h
  refine WO.callD [1, 0] (OpC.fn Tryz.call147 rfl rfl rfl) (ok_slices_ContainsFunc_3 _ _ _ _ hr1) ?_
  rintro _ _ ⟨rfl, rfl⟩
  refine WO.atV (x := (.bool r1)) (H := [.cells 3 [.int .i64 a2], .cells 146 [.fn (.func 91) [] [.ptr 0 0]]]) rfl rfl ?_
  refine vV (x := (.bool (!r1))) (OpV.not rfl rfl) ?_
  refine vV (x := (.bool (!r1))) (OpV.assign rfl rfl) ?_
  refine WO.nil ?_
  refine seqN ?_
  refine TC.ret ?_
  obtain rfl := Option.some.inj h
  refine ⟨[(4, .bool (!r1))], [.cells 3 [.int .i64 a2]], _, ?_, ResOK.one rfl rfl, rfl, rfl⟩
  exact Le.ren [0] rfl rfl (by decide) ⟨rfl, trivial⟩

/- stopwatch/typing.numbers$8 -/
def F_typing_numbers_8 (n : Nat) (a1 : Leg) : Option typing_ends :=
  some ({ from_ := a1.From, to_ := a1.To : typing_ends })
theorem ok_typing_numbers_8 (n : Nat) (a1 : Leg) (r : typing_ends) (h : F_typing_numbers_8 n a1 = some r) :
    C Tryz.prog 98 [.agg (Leg.cells a1)] [] (fun a H => a = .agg (typing_ends.cells r) ∧ H = [.cells 92 (typing_ends.cells r)]) := by
  refine C.of_body Tryz.func98 rfl rfl rfl ?_
  refine TC.seq ?_
  refine TC.region ?_
  refine vH (OpH.box rfl rfl rfl rfl rfl) ?_
  refine WO.atV (x := (.ptr 0 0)) (H := [.cells 90 (Leg.cells a1)]) rfl rfl ?_
  refine vH (OpH.allocZ (v := (.agg [.int .i64 0, .int .i64 0])) Tryz.zeroValue92 (ZR.agg (ZL.cons ZR.int (ZL.cons ZR.int ZL.nil)))) ?_
  refine WO.atV (x := (.ptr 1 0)) (H := [.cells 90 (Leg.cells a1), .cells 92 [.int .i64 0, .int .i64 0]]) rfl rfl ?_
  refine WO.nil ?_
  refine seqN ?_
  refine TC.seq ?_
  refine TC.region ?_
  refine vV (x := (.ptr 0 0)) (OpV.fieldP fa_90_0 rfl rfl) ?_
  refine vV (x := (.int .i64 a1.From)) (OpV.load rfl Tryz.isAgg3 rfl (Pts.cells rfl rfl)) ?_
  refine vV (x := (.ptr 0 1)) (OpV.fieldP fa_90_1 rfl rfl) ?_
  refine vV (x := (.int .i64 a1.To)) (OpV.load rfl Tryz.isAgg3 rfl (Pts.cells rfl rfl)) ?_
  refine vV (x := (.agg [.int .i64 a1.From, .int .i64 a1.To])) (OpV.build (zs := [.int .i64 0, .int .i64 0]) Tryz.zeroValue92 (ZR.agg (ZL.cons ZR.int (ZL.cons ZR.int ZL.nil))) pl_92) ?_
  refine vU (OpU.store rfl rfl rfl Tryz.sizeOf92 rfl rfl rfl rfl rfl rfl rfl) ?_
  refine WO.atH (H := [.cells 90 (Leg.cells a1), .cells 92 [.int .i64 a1.From, .int .i64 a1.To]]) rfl ?_
  refine WO.nil ?_
  refine seqN ?_
  refine TC.ret ?_
  obtain rfl := Option.some.inj h
  refine ⟨[(2, .ptr 0 0)], [.cells 92 (typing_ends.cells ({ from_ := a1.From, to_ := a1.To : typing_ends }))], _, ?_, ResOK.single rfl (ResAt.cellB Tryz.isAgg92 Tryz.sizeOf92 rfl rfl rfl), rfl, rfl⟩
  exact Le.ren [1] rfl rfl (by decide) ⟨rfl, trivial⟩

/- stopwatch/typing.once[stopwatch/api.Leg,stopwatch/typing.ends] -/
def F_typing_once_L1 (n : Nat) (a1 : List Leg) (s13 : (List (typing_ends × Bool)) × Int) : Option (Ctl ((List (typing_ends × Bool)) × Int) (List (typing_ends × Bool))) :=
  (bif decide (s13.2 < (a1.length : Int)) then (idx a1 s13.2).bind fun x17 => (F_typing_numbers_8 n x17).bind fun r18 => (some (mset s13.1 r18 true)).bind fun m19 => some (.cont (m19, IntKind.i64.wrap (s13.2 + 1))) else some (.done s13.1))
def F_typing_once (n : Nat) (a1 : List Leg) : Option Bool :=
  (iter (F_typing_once_L1 n a1) n ([], 0) : Option (List (typing_ends × Bool))).bind fun b10 => some ((b10.length : Int) == (a1.length : Int))
theorem ok_typing_once (n : Nat) (a1 : List Leg) (r : Bool) (h : F_typing_once n a1 = some r) :
    C Tryz.prog 97 [.rsl 4 (List.map Leg.cells a1), .fn (.func 98) [] []] [] (fun a H => a = .bool r ∧ H = []) := by
  refine C.of_body Tryz.func97 rfl rfl rfl ?_
  refine TC.seq ?_
  refine TC.region ?_
  refine vV (x := (.bool false)) (OpV.assign rfl rfl) ?_
  refine WO.nil ?_
  refine seqN ?_
  refine TC.seq ?_
  refine TC.region ?_
  refine vH OpH.mkMap ?_
  refine WO.atV (x := (.map 0)) (H := [.map (menc (fun x => A.agg (typing_ends.cells x)) A.bool [])]) rfl rfl ?_
  refine vV (x := (.map 0)) (OpV.assign rfl rfl) ?_
  refine WO.nil ?_
  refine seqN ?_
  refine TC.seq ?_
  refine TC.seq ?_
  refine TC.region ?_
  refine vV (x := (.rsl 4 (List.map Leg.cells a1))) (OpV.move rfl rfl) ?_
  refine vV (x := (.int .i64 (a1.length : Int))) (OpV.lenM Tryz.runUnderlying23) ?_
  refine vV (x := (.int .i64 0)) (OpV.move rfl rfl) ?_
  refine WO.nil ?_
  refine seqN ?_
  obtain ⟨b10, h11, h⟩ := bnd h
  refine TC.cut ([(0, .rsl 4 (List.map Leg.cells a1)), (5, .map 0)]) ([.map (menc (fun x => A.agg (typing_ends.cells x)) A.bool b10)]) ?_ (fun env H hle => ?_)
  ·
    refine TC.block ?_
    refine TC.loop (E := fun s13 => [(0, .rsl 4 (List.map Leg.cells a1)), (1, .fn (.func 98) [] []), (5, .map 0), (9, .rsl 4 (List.map Leg.cells a1)), (10, .int .i64 (a1.length : Int)), (11, .int .i64 s13.2)]) (Hp := fun s13 => [.map (menc (fun x => A.agg (typing_ends.cells x)) A.bool s13.1)]) h11 ?_ ?_
    ·
      exact Le.ren [0] rfl rfl (by decide) ⟨rfl, rfl, rfl, rfl, rfl, rfl, trivial⟩
    intro s13 d14 h15 hb12
    refine TC.seq ?_
    refine TC.region ?_
    refine vV (x := (.bool (decide (s13.2 < (a1.length : Int))))) (OpV.lss rfl rfl rfl) ?_
    refine WO.nil ?_
    refine seqN ?_
    refine TC.seq ?_
    refine TC.condS rfl (fun hc16 => ?_) (fun hc16 => ?_)
    · have h15 := ifF hc16 h15
      refine TC.exit ?_
      refine seqX ?_
      refine loopX h15 ?_
      obtain rfl := hb12 _ (Option.some.inj h15).symm
      refine bloE ?_
      refine cutN ?_
      exact Le.ren [0] rfl rfl (by decide) ⟨rfl, rfl, trivial⟩
    have h15 := ifT hc16 h15
    refine TC.skip ?_
    refine seqN ?_
    refine TC.seq ?_
    refine TC.block ?_
    refine TC.seq ?_
    refine TC.region ?_
    obtain ⟨x17, hx17, h15⟩ := bnd h15
    refine vV (x := (.rp [.int .i64 x17.From, .int .i64 x17.To, .int .i64 x17.Min, .int .i64 x17.Max])) (OpV.ixM (e := Leg.cells) (v := x17) hx17 Tryz.runUnderlying23 Tryz.sizeOf90) ?_
    refine vV (x := (.agg (Leg.cells x17))) (OpV.loadA rfl Tryz.isAgg90 Tryz.sizeOf90 rfl Pts.rp rfl rfl) ?_
    refine vH (OpH.allocZ (v := (.agg [.int .i64 0, .int .i64 0, .int .i64 0, .int .i64 0])) Tryz.zeroValue90 (ZR.agg (ZL.cons ZR.int (ZL.cons ZR.int (ZL.cons ZR.int (ZL.cons ZR.int ZL.nil)))))) ?_
    refine WO.atV (x := (.ptr 1 0)) (H := [.map (menc (fun x => A.agg (typing_ends.cells x)) A.bool s13.1), .cells 90 [.int .i64 0, .int .i64 0, .int .i64 0, .int .i64 0]]) rfl rfl ?_
    refine vU (OpU.store rfl rfl rfl Tryz.sizeOf90 rfl rfl rfl rfl rfl rfl rfl) ?_
    refine WO.atH (H := [.map (menc (fun x => A.agg (typing_ends.cells x)) A.bool s13.1), .cells 90 (Leg.cells x17)]) rfl ?_
    refine WO.nil ?_
    refine seqN ?_
    refine TC.region ?_
    refine vV (x := (.map 0)) (OpV.move rfl rfl) ?_
    refine vV (x := (.fn (.func 98) [] [])) (OpV.move rfl rfl) ?_
    refine vV (x := (.agg (Leg.cells x17))) (OpV.loadA rfl Tryz.isAgg90 Tryz.sizeOf90 rfl (Pts.cells rfl rfl) rfl rfl) ?_
    obtain ⟨r18, hr18, h15⟩ := bnd h15
    refine WO.callD [] (OpC.clo Tryz.call98 rfl rfl rfl rfl) (ok_typing_numbers_8 _ _ _ hr18) ?_
    rintro _ _ ⟨rfl, rfl⟩
    refine WO.atV (x := (.agg (typing_ends.cells r18))) (H := [.map (menc (fun x => A.agg (typing_ends.cells x)) A.bool s13.1), .cells 90 (Leg.cells x17), .cells 92 (typing_ends.cells r18)]) rfl rfl ?_
    obtain ⟨m19, hm19, h15⟩ := bnd h15
    refine vU (OpU.mput (ev := A.bool) (k := r18) (v := true) (l := s13.1) key_92 hm19 rfl Tryz.underlying88) ?_
    refine WO.atH (H := [.map (menc (fun x => A.agg (typing_ends.cells x)) A.bool m19), .cells 90 (Leg.cells x17), .cells 92 (typing_ends.cells r18)]) rfl ?_
    refine WO.nil ?_
    refine bloN ?_
    refine seqN ?_
    refine TC.region ?_
    refine vV (x := (.int .i64 (IntKind.i64.wrap (s13.2 + 1)))) (OpV.add rfl rfl rfl) ?_
    refine vV (x := (.int .i64 (IntKind.i64.wrap (s13.2 + 1)))) (OpV.move rfl rfl) ?_
    refine WO.nil ?_
    refine loopN h15 ?_
    exact Le.ren [0] rfl rfl (by decide) ⟨rfl, rfl, rfl, rfl, rfl, rfl, trivial⟩
  refine seqN (TC.le hle ?_)
  refine TC.seq ?_
  refine TC.region ?_
  refine vV (x := (.map 0)) (OpV.move rfl rfl) ?_
  refine vV (x := (.int .i64 (b10.length : Int))) (OpV.lenMap (l := b10) Tryz.underlying88 rfl) ?_
  refine vV (x := (.rsl 4 (List.map Leg.cells a1))) (OpV.move rfl rfl) ?_
  refine vV (x := (.int .i64 (a1.length : Int))) (OpV.lenM Tryz.runUnderlying23) ?_
  refine vV (x := (.bool ((b10.length : Int) == (a1.length : Int)))) (OpV.eql rfl rfl rfl) ?_
  refine vV (x := (.bool ((b10.length : Int) == (a1.length : Int)))) (OpV.assign rfl rfl) ?_
  refine WO.nil ?_
  refine seqN ?_
  refine TC.ret ?_
  obtain rfl := Option.some.inj h
  refine ⟨[(4, .bool ((b10.length : Int) == (a1.length : Int)))], [], _, ?_, ResOK.one rfl rfl, rfl, rfl⟩
  exact Le.ren [] rfl rfl (by decide) ⟨rfl, trivial⟩

/- stopwatch/typing.numbers$1 -/
def F_typing_numbers_1 (rec45 : (List Part) → Int → Option Bool) (n : Nat) (a1 : Part) (a2 : Int) : Option Bool :=
  (bif (a1.Laps == 0) then ((F_typing_within n 0 a2 [a1.Mat]).bind fun r6 => (bif r6 then some ((a1.Parts.length : Int) == 0) else some false) : Option Bool).bind fun b4 => some b4 else ((F_typing_within n 1 64 [a1.Laps]).bind fun r15 => (bif r15 then (bif (a1.Mat == 0) then (bif decide (0 < (a1.Parts.length : Int)) then (rec45 a1.Parts a2).bind fun r19 => some r19 else some false) else some false) else some false) : Option Bool).bind fun b13 => some b13)
theorem ok_typing_numbers_1 (rec45 : (List Part) → Int → Option Bool) (hrec45 : ∀ (a1 : List Part) (a2 : Int) (r : Bool), rec45 a1 a2 = some r → C Tryz.prog 87 [.rsl 3 (List.map Part.enc a1), .fn (.func 85) [] [.ptr 0 0, .ptr 1 0]] [.cells 3 [.int .i64 a2], .cells 141 [.fn (.func 85) [] [.ptr 0 0, .ptr 1 0]]] (fun a H => a = .bool r ∧ H = [.cells 3 [.int .i64 a2], .cells 141 [.fn (.func 85) [] [.ptr 0 0, .ptr 1 0]]])) (n : Nat) (a1 : Part) (a2 : Int) (r : Bool) (h : F_typing_numbers_1 rec45 n a1 a2 = some r) :
    C Tryz.prog 85 [.agg (Part.cells a1), .ptr 0 0, .ptr 1 0] [.cells 3 [.int .i64 a2], .cells 141 [.fn (.func 85) [] [.ptr 0 0, .ptr 1 0]]] (fun a H => a = .bool r ∧ H = [.cells 3 [.int .i64 a2], .cells 141 [.fn (.func 85) [] [.ptr 0 0, .ptr 1 0]]]) := by
  refine C.of_body Tryz.func85 rfl rfl rfl ?_
  refine TC.seq ?_
  refine TC.region ?_
  refine vH (OpH.box rfl rfl rfl rfl rfl) ?_
  refine WO.atV (x := (.ptr 2 0)) (H := [.cells 3 [.int .i64 a2], .cells 141 [.fn (.func 85) [] [.ptr 0 0, .ptr 1 0]], .cells 85 (Part.cells a1)]) rfl rfl ?_
  refine vV (x := (.bool false)) (OpV.assign rfl rfl) ?_
  refine WO.nil ?_
  refine seqN ?_
  refine TC.seq ?_
  refine TC.seq ?_
  refine TC.region ?_
  refine vV (x := (.ptr 2 1)) (OpV.fieldP fa_85_1 rfl rfl) ?_
  refine vV (x := (.int .i64 a1.Laps)) (OpV.load rfl Tryz.isAgg3 rfl (Pts.cells rfl rfl)) ?_
  refine vV (x := (.bool (a1.Laps == 0))) (OpV.eql rfl rfl rfl) ?_
  refine WO.nil ?_
  refine seqN ?_
  refine TC.cond rfl (fun hc1 => ?_) (fun hc1 => ?_)
  · have h := ifT hc1 h
    refine TC.seq ?_
    obtain ⟨b4, h5, h⟩ := bnd h
    refine TC.cut ([(4, .bool b4)]) ([.cells 3 [.int .i64 a2], .cells 141 [.fn (.func 85) [] [.ptr 0 0, .ptr 1 0]]]) ?_ (fun env H hle => ?_)
    ·
      refine TC.region ?_
      refine vV (x := (.int .i64 a2)) (OpV.load rfl Tryz.isAgg3 rfl (Pts.cells rfl rfl)) ?_
      refine vV (x := (.ptr 2 0)) (OpV.fieldP fa_85_0 rfl rfl) ?_
      refine vV (x := (.int .i64 a1.Mat)) (OpV.load rfl Tryz.isAgg3 rfl (Pts.cells rfl rfl)) ?_
      refine vH (OpH.lit (xs := [.tmp 10]) (es := List.map (encI .i64) [a1.Mat]) el_39 rfl rfl rfl rfl rfl ⟨rfl, trivial⟩ rfl rfl) ?_
      refine WO.atV (x := (.osl 3 0 ([a1.Mat].length) 1)) (H := [.cells 3 [.int .i64 a2], .cells 141 [.fn (.func 85) [] [.ptr 0 0, .ptr 1 0]], .cells 85 (Part.cells a1), .row 3 1 (List.map (encI .i64) [a1.Mat])]) rfl rfl ?_
      obtain ⟨r6, hr6, h5⟩ := bnd h5
      refine WO.callB (OpC.fn Tryz.call86 rfl rfl rfl) (LookL.cons rfl (.inl ⟨rfl, rfl⟩) (LookL.cons rfl (.inl ⟨rfl, rfl⟩) (LookL.cons rfl (.inr ⟨_, _, _, _, _, rfl, rfl, List.length_map .., rfl⟩) LookL.nil))) (ok_typing_within _ _ _ _ _ hr6) (by rintro _ _ ⟨rfl, rfl⟩; rfl) ?_
      rintro _ _ ⟨rfl, rfl⟩
      refine WO.atV (x := (.bool r6)) (H := [.cells 3 [.int .i64 a2], .cells 141 [.fn (.func 85) [] [.ptr 0 0, .ptr 1 0]], .cells 85 (Part.cells a1), .row 3 1 (List.map (encI .i64) [a1.Mat])]) rfl rfl ?_
      refine vV (x := (.bool r6)) (OpV.move rfl rfl) ?_
      rcases bTF (r6) with hg7 | hg7
      · have h5 := ifT hg7 h5
        refine vV (x := (.ptr 2 2)) (OpV.fieldP fa_85_2 rfl rfl) ?_ (gT hg7)
        refine vV (x := (.rsl 3 (List.map Part.enc a1.Parts))) (OpV.load rfl Tryz.isAgg59 rfl (Pts.cells rfl rfl)) ?_ (gT hg7)
        refine vV (x := (.int .i64 (a1.Parts.length : Int))) (OpV.lenM Tryz.runUnderlying59) ?_ (gT hg7)
        refine vV (x := (.bool ((a1.Parts.length : Int) == 0))) (OpV.eql rfl rfl rfl) ?_ (gT hg7)
        refine vV (x := (.bool ((a1.Parts.length : Int) == 0))) (OpV.pickT hg7) ?_
        refine vV (x := (.bool ((a1.Parts.length : Int) == 0))) (OpV.assign rfl rfl) ?_
        refine WO.nil ?_
        obtain rfl := Option.some.inj h5
        refine cutN ?_
        exact Le.ren [0, 1] rfl rfl (by decide) ⟨rfl, trivial⟩
      · have h5 := ifF hg7 h5
        refine vS (gF hg7) ?_
        refine vS (gF hg7) ?_
        refine vS (gF hg7) ?_
        refine vS (gF hg7) ?_
        refine vV (x := (.bool false)) (OpV.pickF hg7) ?_
        refine vV (x := (.bool false)) (OpV.assign rfl rfl) ?_
        refine WO.nil ?_
        obtain rfl := Option.some.inj h5
        refine cutN ?_
        exact Le.ren [0, 1] rfl rfl (by decide) ⟨rfl, trivial⟩
    refine seqN (TC.le hle ?_)
    refine TC.ret ?_
    refine seqR ?_
    obtain rfl := Option.some.inj h
    refine ⟨[(4, .bool b4)], [.cells 3 [.int .i64 a2], .cells 141 [.fn (.func 85) [] [.ptr 0 0, .ptr 1 0]]], _, ?_, ResOK.one rfl rfl, rfl, rfl⟩
    exact Le.ren [0, 1] rfl rfl (by decide) ⟨rfl, trivial⟩
  have h := ifF hc1 h
  refine TC.skip ?_
  refine seqN ?_
  refine TC.seq ?_
  obtain ⟨b13, h14, h⟩ := bnd h
  refine TC.cut ([(4, .bool b13)]) ([.cells 3 [.int .i64 a2], .cells 141 [.fn (.func 85) [] [.ptr 0 0, .ptr 1 0]]]) ?_ (fun env H hle => ?_)
  ·
    refine TC.region ?_
    refine vV (x := (.ptr 2 1)) (OpV.fieldP fa_85_1 rfl rfl) ?_
    refine vV (x := (.int .i64 a1.Laps)) (OpV.load rfl Tryz.isAgg3 rfl (Pts.cells rfl rfl)) ?_
    refine vH (OpH.lit (xs := [.tmp 20]) (es := List.map (encI .i64) [a1.Laps]) el_39 rfl rfl rfl rfl rfl ⟨rfl, trivial⟩ rfl rfl) ?_
    refine WO.atV (x := (.osl 3 0 ([a1.Laps].length) 1)) (H := [.cells 3 [.int .i64 a2], .cells 141 [.fn (.func 85) [] [.ptr 0 0, .ptr 1 0]], .cells 85 (Part.cells a1), .row 3 1 (List.map (encI .i64) [a1.Laps])]) rfl rfl ?_
    obtain ⟨r15, hr15, h14⟩ := bnd h14
    refine WO.callB (OpC.fn Tryz.call86 rfl rfl rfl) (LookL.cons rfl (.inl ⟨rfl, rfl⟩) (LookL.cons rfl (.inl ⟨rfl, rfl⟩) (LookL.cons rfl (.inr ⟨_, _, _, _, _, rfl, rfl, List.length_map .., rfl⟩) LookL.nil))) (ok_typing_within _ _ _ _ _ hr15) (by rintro _ _ ⟨rfl, rfl⟩; rfl) ?_
    rintro _ _ ⟨rfl, rfl⟩
    refine WO.atV (x := (.bool r15)) (H := [.cells 3 [.int .i64 a2], .cells 141 [.fn (.func 85) [] [.ptr 0 0, .ptr 1 0]], .cells 85 (Part.cells a1), .row 3 1 (List.map (encI .i64) [a1.Laps])]) rfl rfl ?_
    refine vV (x := (.bool r15)) (OpV.move rfl rfl) ?_
    rcases bTF (r15) with hg16 | hg16
    · have h14 := ifT hg16 h14
      refine vV (x := (.ptr 2 0)) (OpV.fieldP fa_85_0 rfl rfl) ?_ (gT hg16)
      refine vV (x := (.int .i64 a1.Mat)) (OpV.load rfl Tryz.isAgg3 rfl (Pts.cells rfl rfl)) ?_ (gT hg16)
      refine vV (x := (.bool (a1.Mat == 0))) (OpV.eql rfl rfl rfl) ?_ (gT hg16)
      refine vV (x := (.bool (a1.Mat == 0))) (OpV.pickT hg16) ?_
      refine vV (x := (.bool (a1.Mat == 0))) (OpV.move rfl rfl) ?_
      rcases bTF ((a1.Mat == 0)) with hg17 | hg17
      · have h14 := ifT hg17 h14
        refine vV (x := (.ptr 2 2)) (OpV.fieldP fa_85_2 rfl rfl) ?_ (gT hg17)
        refine vV (x := (.rsl 3 (List.map Part.enc a1.Parts))) (OpV.load rfl Tryz.isAgg59 rfl (Pts.cells rfl rfl)) ?_ (gT hg17)
        refine vV (x := (.int .i64 (a1.Parts.length : Int))) (OpV.lenM Tryz.runUnderlying59) ?_ (gT hg17)
        refine vV (x := (.bool (decide (0 < (a1.Parts.length : Int))))) (OpV.gtr rfl rfl rfl) ?_ (gT hg17)
        refine vV (x := (.bool (decide (0 < (a1.Parts.length : Int))))) (OpV.pickT hg17) ?_
        refine vV (x := (.bool (decide (0 < (a1.Parts.length : Int))))) (OpV.move rfl rfl) ?_
        rcases bTF (decide (0 < (a1.Parts.length : Int))) with hg18 | hg18
        · have h14 := ifT hg18 h14
          refine vV (x := (.ptr 2 2)) (OpV.fieldP fa_85_2 rfl rfl) ?_ (gT hg18)
          refine vV (x := (.rsl 3 (List.map Part.enc a1.Parts))) (OpV.load rfl Tryz.isAgg59 rfl (Pts.cells rfl rfl)) ?_ (gT hg18)
          refine vV (x := (.fn (.func 85) [] [.ptr 0 0, .ptr 1 0])) (OpV.load rfl Tryz.isAgg141 rfl (Pts.cells rfl rfl)) ?_ (gT hg18)
          obtain ⟨r19, hr19, h14⟩ := bnd h14
          refine WO.callD [0, 1] (OpC.fn Tryz.call87 rfl rfl rfl) (hrec45 _ _ _ hr19) ?_ (hg := (gT hg18))
          rintro _ _ ⟨rfl, rfl⟩
          refine WO.atV (x := (.bool r19)) (H := [.cells 3 [.int .i64 a2], .cells 141 [.fn (.func 85) [] [.ptr 0 0, .ptr 1 0]], .cells 85 (Part.cells a1), .row 3 1 (List.map (encI .i64) [a1.Laps])]) rfl rfl ?_
          refine vV (x := (.bool r19)) (OpV.pickT hg18) ?_
          refine vV (x := (.bool r19)) (OpV.assign rfl rfl) ?_
          refine WO.nil ?_
          obtain rfl := Option.some.inj h14
          refine cutN ?_
          exact Le.ren [0, 1] rfl rfl (by decide) ⟨rfl, trivial⟩
        · have h14 := ifF hg18 h14
          refine vS (gF hg18) ?_
          refine vS (gF hg18) ?_
          refine vS (gF hg18) ?_
          refine vS (gF hg18) ?_
          refine vV (x := (.bool false)) (OpV.pickF hg18) ?_
          refine vV (x := (.bool false)) (OpV.assign rfl rfl) ?_
          refine WO.nil ?_
          obtain rfl := Option.some.inj h14
          refine cutN ?_
          exact Le.ren [0, 1] rfl rfl (by decide) ⟨rfl, trivial⟩
      · have h14 := ifF hg17 h14
        refine vS (gF hg17) ?_
        refine vS (gF hg17) ?_
        refine vS (gF hg17) ?_
        refine vS (gF hg17) ?_
        refine vV (x := (.bool false)) (OpV.pickF hg17) ?_
        refine vV (x := (.bool false)) (OpV.move rfl rfl) ?_
        refine vS (gF rfl) ?_
        refine vS (gF rfl) ?_
        refine vS (gF rfl) ?_
        refine vS (gF rfl) ?_
        refine vV (x := (.bool false)) (OpV.pickF rfl) ?_
        refine vV (x := (.bool false)) (OpV.assign rfl rfl) ?_
        refine WO.nil ?_
        obtain rfl := Option.some.inj h14
        refine cutN ?_
        exact Le.ren [0, 1] rfl rfl (by decide) ⟨rfl, trivial⟩
    · have h14 := ifF hg16 h14
      refine vS (gF hg16) ?_
      refine vS (gF hg16) ?_
      refine vS (gF hg16) ?_
      refine vV (x := (.bool false)) (OpV.pickF hg16) ?_
      refine vV (x := (.bool false)) (OpV.move rfl rfl) ?_
      refine vS (gF rfl) ?_
      refine vS (gF rfl) ?_
      refine vS (gF rfl) ?_
      refine vS (gF rfl) ?_
      refine vV (x := (.bool false)) (OpV.pickF rfl) ?_
      refine vV (x := (.bool false)) (OpV.move rfl rfl) ?_
      refine vS (gF rfl) ?_
      refine vS (gF rfl) ?_
      refine vS (gF rfl) ?_
      refine vS (gF rfl) ?_
      refine vV (x := (.bool false)) (OpV.pickF rfl) ?_
      refine vV (x := (.bool false)) (OpV.assign rfl rfl) ?_
      refine WO.nil ?_
      obtain rfl := Option.some.inj h14
      refine cutN ?_
      exact Le.ren [0, 1] rfl rfl (by decide) ⟨rfl, trivial⟩
  refine seqN (TC.le hle ?_)
  refine TC.ret ?_
  obtain rfl := Option.some.inj h
  refine ⟨[(4, .bool b13)], [.cells 3 [.int .i64 a2], .cells 141 [.fn (.func 85) [] [.ptr 0 0, .ptr 1 0]]], _, ?_, ResOK.one rfl rfl, rfl, rfl⟩
  exact Le.ren [0, 1] rfl rfl (by decide) ⟨rfl, trivial⟩

/- stopwatch/typing.all[stopwatch/api.Part]$1 -/
def F_typing_all_8 (rec45 : (List Part) → Int → Option Bool) (n : Nat) (a1 : Part) (a2 : Int) : Option Bool :=
  (F_typing_numbers_1 rec45 n a1 a2).bind fun r1 => some (!r1)
theorem ok_typing_all_8 (rec45 : (List Part) → Int → Option Bool) (hrec45 : ∀ (a1 : List Part) (a2 : Int) (r : Bool), rec45 a1 a2 = some r → C Tryz.prog 87 [.rsl 3 (List.map Part.enc a1), .fn (.func 85) [] [.ptr 0 0, .ptr 1 0]] [.cells 3 [.int .i64 a2], .cells 141 [.fn (.func 85) [] [.ptr 0 0, .ptr 1 0]]] (fun a H => a = .bool r ∧ H = [.cells 3 [.int .i64 a2], .cells 141 [.fn (.func 85) [] [.ptr 0 0, .ptr 1 0]]])) (n : Nat) (a1 : Part) (a2 : Int) (r : Bool) (h : F_typing_all_8 rec45 n a1 a2 = some r) :
    C Tryz.prog 142 [.agg (Part.cells a1), .ptr 0 0] [.cells 141 [.fn (.func 85) [] [.ptr 1 0, .ptr 2 0]], .cells 3 [.int .i64 a2], .cells 141 [.fn (.func 85) [] [.ptr 1 0, .ptr 2 0]]] (fun a H => a = .bool r ∧ H = [.cells 141 [.fn (.func 85) [] [.ptr 1 0, .ptr 2 0]], .cells 3 [.int .i64 a2], .cells 141 [.fn (.func 85) [] [.ptr 1 0, .ptr 2 0]]]) := by
  refine C.of_body Tryz.func142 rfl rfl rfl ?_
  refine TC.seq ?_
  refine TC.region ?_
  refine vH (OpH.box rfl rfl rfl rfl rfl) ?_
  refine WO.atV (x := (.ptr 3 0)) (H := [.cells 141 [.fn (.func 85) [] [.ptr 1 0, .ptr 2 0]], .cells 3 [.int .i64 a2], .cells 141 [.fn (.func 85) [] [.ptr 1 0, .ptr 2 0]], .cells 85 (Part.cells a1)]) rfl rfl ?_
  refine vV (x := (.bool false)) (OpV.assign rfl rfl) ?_
  refine WO.nil ?_
  refine seqN ?_
  refine TC.seq ?_
  refine TC.region ?_
  refine vV (x := (.fn (.func 85) [] [.ptr 1 0, .ptr 2 0])) (OpV.load rfl Tryz.isAgg141 rfl (Pts.cells rfl rfl)) ?_
  refine vV (x := (.agg (Part.cells a1))) (OpV.loadA rfl Tryz.isAgg85 Tryz.sizeOf85 rfl (Pts.cells rfl rfl) rfl rfl) ?_
  obtain ⟨r1, hr1, h⟩ := bnd h
  refine WO.callD [1, 2] (OpC.clo Tryz.call85 rfl rfl rfl rfl) (ok_typing_numbers_1 rec45 hrec45 _ _ _ _ hr1) ?_
  rintro _ _ ⟨rfl, rfl⟩
  refine WO.atV (x := (.bool r1)) (H := [.cells 141 [.fn (.func 85) [] [.ptr 1 0, .ptr 2 0]], .cells 3 [.int .i64 a2], .cells 141 [.fn (.func 85) [] [.ptr 1 0, .ptr 2 0]], .cells 85 (Part.cells a1)]) rfl rfl ?_
  refine vV (x := (.bool (!r1))) (OpV.not rfl rfl) ?_
  refine vV (x := (.bool (!r1))) (OpV.assign rfl rfl) ?_
  refine WO.nil ?_
  refine seqN ?_
  refine TC.ret ?_
  obtain rfl := Option.some.inj h
  refine ⟨[(3, .bool (!r1))], [.cells 141 [.fn (.func 85) [] [.ptr 1 0, .ptr 2 0]], .cells 3 [.int .i64 a2], .cells 141 [.fn (.func 85) [] [.ptr 1 0, .ptr 2 0]]], _, ?_, ResOK.one rfl rfl, rfl, rfl⟩
  exact Le.ren [0, 1, 2] rfl rfl (by decide) ⟨rfl, trivial⟩

/- slices.IndexFunc[[]stopwatch/api.Part,stopwatch/api.Part] -/
def F_slices_IndexFunc_5_L1 (n : Nat) (a1 : List Part) (a2 : Int) (rec45 : (List Part) → Int → Option Bool) (s13 : Int) : Option (Ctl Int (Ctl Unit Int)) :=
  (bif decide (s13 < (a1.length : Int)) then (idx a1 s13).bind fun x17 => (F_typing_all_8 rec45 n x17 a2).bind fun r18 => (bif r18 then some (.done (.done s13)) else some (.cont (IntKind.i64.wrap (s13 + 1)))) else some (.done (.cont ())))
def F_slices_IndexFunc_5 (rec45 : (List Part) → Int → Option Bool) (n : Nat) (a1 : List Part) (a2 : Int) : Option Int :=
  (iter (F_slices_IndexFunc_5_L1 n a1 a2 rec45) n 0 : Option (Ctl Unit Int)).bind fun b10 => match b10 with | .cont sb10 => (some (-1)) | .done sb10 => some sb10
theorem ok_slices_IndexFunc_5 (rec45 : (List Part) → Int → Option Bool) (hrec45 : ∀ (a1 : List Part) (a2 : Int) (r : Bool), rec45 a1 a2 = some r → C Tryz.prog 87 [.rsl 3 (List.map Part.enc a1), .fn (.func 85) [] [.ptr 0 0, .ptr 1 0]] [.cells 3 [.int .i64 a2], .cells 141 [.fn (.func 85) [] [.ptr 0 0, .ptr 1 0]]] (fun a H => a = .bool r ∧ H = [.cells 3 [.int .i64 a2], .cells 141 [.fn (.func 85) [] [.ptr 0 0, .ptr 1 0]]])) (n : Nat) (a1 : List Part) (a2 : Int) (r : Int) (h : F_slices_IndexFunc_5 rec45 n a1 a2 = some r) :
    C Tryz.prog 173 [.rsl 3 (List.map Part.enc a1), .fn (.func 142) [] [.ptr 0 0]] [.cells 141 [.fn (.func 85) [] [.ptr 1 0, .ptr 2 0]], .cells 3 [.int .i64 a2], .cells 141 [.fn (.func 85) [] [.ptr 1 0, .ptr 2 0]]] (fun a H => a = .int .i64 r ∧ H = [.cells 141 [.fn (.func 85) [] [.ptr 1 0, .ptr 2 0]], .cells 3 [.int .i64 a2], .cells 141 [.fn (.func 85) [] [.ptr 1 0, .ptr 2 0]]]) := by
  refine C.of_body Tryz.func173 rfl rfl rfl ?_
  refine TC.seq ?_
  refine TC.region ?_
  refine vV (x := (.int .i64 0)) (OpV.assign rfl rfl) ?_
  refine WO.nil ?_
  refine seqN ?_
  refine TC.seq ?_
  refine TC.seq ?_
  refine TC.region ?_
  refine vV (x := (.rsl 3 (List.map Part.enc a1))) (OpV.move rfl rfl) ?_
  refine vV (x := (.int .i64 (a1.length : Int))) (OpV.lenM Tryz.runUnderlying59) ?_
  refine vV (x := (.int .i64 0)) (OpV.move rfl rfl) ?_
  refine WO.nil ?_
  refine seqN ?_
  obtain ⟨b10, h11, h⟩ := bnd h
  refine TC.cutE (b := b10) (fun sb10 => []) (fun sb10 => [.cells 141 [.fn (.func 85) [] [.ptr 1 0, .ptr 2 0]], .cells 3 [.int .i64 a2], .cells 141 [.fn (.func 85) [] [.ptr 1 0, .ptr 2 0]]]) ?_ (fun sb10 env H hbe hle => ?_)
  ·
    refine TC.block ?_
    refine TC.loop (E := fun s13 => [(0, .rsl 3 (List.map Part.enc a1)), (1, .fn (.func 142) [] [.ptr 0 0]), (7, .int .i64 (a1.length : Int)), (8, .int .i64 s13)]) (Hp := fun s13 => [.cells 141 [.fn (.func 85) [] [.ptr 1 0, .ptr 2 0]], .cells 3 [.int .i64 a2], .cells 141 [.fn (.func 85) [] [.ptr 1 0, .ptr 2 0]]]) h11 ?_ ?_
    ·
      exact Le.ren [0, 1, 2] rfl rfl (by decide) ⟨rfl, rfl, rfl, rfl, trivial⟩
    intro s13 d14 h15 hb12
    refine TC.seq ?_
    refine TC.region ?_
    refine vV (x := (.bool (decide (s13 < (a1.length : Int))))) (OpV.lss rfl rfl rfl) ?_
    refine WO.nil ?_
    refine seqN ?_
    refine TC.seq ?_
    refine TC.condS rfl (fun hc16 => ?_) (fun hc16 => ?_)
    · have h15 := ifF hc16 h15
      refine TC.exit ?_
      refine seqX ?_
      refine loopX h15 ?_
      obtain rfl := hb12 _ (Option.some.inj h15).symm
      refine bloE ?_
      refine cutEN rfl ?_
      exact Le.ren [0, 1, 2] rfl rfl (by decide) trivial
    have h15 := ifT hc16 h15
    refine TC.skip ?_
    refine seqN ?_
    refine TC.seq ?_
    refine TC.block ?_
    refine TC.seq ?_
    refine TC.region ?_
    refine vV (x := (.int .i64 s13)) (OpV.move rfl rfl) ?_
    refine vV (x := (.int .i64 s13)) (OpV.assign rfl rfl) ?_
    refine WO.nil ?_
    refine seqN ?_
    refine TC.seq ?_
    refine TC.region ?_
    refine vV (x := (.fn (.func 142) [] [.ptr 0 0])) (OpV.move rfl rfl) ?_
    refine vV (x := (.rsl 3 (List.map Part.enc a1))) (OpV.move rfl rfl) ?_
    refine vV (x := (.int .i64 s13)) (OpV.move rfl rfl) ?_
    obtain ⟨x17, hx17, h15⟩ := bnd h15
    refine vV (x := (.rp [.int .i64 x17.Mat, .int .i64 x17.Laps, .rsl 3 (List.map Part.enc x17.Parts)])) (OpV.ixME (e := Part.enc) hx17 (Part.enc_eq x17) Tryz.runUnderlying59 Tryz.sizeOf85) ?_
    refine vV (x := (.agg (Part.cells x17))) (OpV.loadA rfl Tryz.isAgg85 Tryz.sizeOf85 rfl Pts.rp rfl rfl) ?_
    obtain ⟨r18, hr18, h15⟩ := bnd h15
    refine WO.callD [0, 1, 2] (OpC.clo Tryz.call142 rfl rfl rfl rfl) (ok_typing_all_8 rec45 hrec45 _ _ _ _ hr18) ?_
    rintro _ _ ⟨rfl, rfl⟩
    refine WO.atV (x := (.bool r18)) (H := [.cells 141 [.fn (.func 85) [] [.ptr 1 0, .ptr 2 0]], .cells 3 [.int .i64 a2], .cells 141 [.fn (.func 85) [] [.ptr 1 0, .ptr 2 0]]]) rfl rfl ?_
    refine WO.nil ?_
    refine seqN ?_
    refine TC.cond rfl (fun hc19 => ?_) (fun hc19 => ?_)
    · have h15 := ifT hc19 h15
      refine TC.seq ?_
      refine TC.region ?_
      refine vV (x := (.int .i64 s13)) (OpV.move rfl rfl) ?_
      refine vV (x := (.int .i64 s13)) (OpV.assign rfl rfl) ?_
      refine WO.nil ?_
      refine seqN ?_
      refine TC.ret ?_
      refine bloR ?_
      refine seqR ?_
      refine loopR h15 ?_
      obtain rfl := hb12 _ (Option.some.inj h15).symm
      refine bloR ?_
      refine cutER ?_
      refine seqR ?_
      obtain rfl := Option.some.inj h
      refine ⟨[(4, .int .i64 s13)], [.cells 141 [.fn (.func 85) [] [.ptr 1 0, .ptr 2 0]], .cells 3 [.int .i64 a2], .cells 141 [.fn (.func 85) [] [.ptr 1 0, .ptr 2 0]]], _, ?_, ResOK.one rfl rfl, rfl, rfl⟩
      exact Le.ren [0, 1, 2] rfl rfl (by decide) ⟨rfl, trivial⟩
    have h15 := ifF hc19 h15
    refine TC.skip ?_
    refine bloN ?_
    refine seqN ?_
    refine TC.region ?_
    refine vV (x := (.int .i64 (IntKind.i64.wrap (s13 + 1)))) (OpV.add rfl rfl rfl) ?_
    refine vV (x := (.int .i64 (IntKind.i64.wrap (s13 + 1)))) (OpV.move rfl rfl) ?_
    refine WO.nil ?_
    refine loopN h15 ?_
    exact Le.ren [0, 1, 2] rfl rfl (by decide) ⟨rfl, rfl, rfl, rfl, trivial⟩
  subst hbe
  refine seqN (TC.le hle ?_)
  refine TC.seq ?_
  refine TC.region ?_
  refine vV (x := (.int .i64 (-1))) (OpV.assign rfl rfl) ?_
  refine WO.nil ?_
  refine seqN ?_
  refine TC.ret ?_
  obtain rfl := Option.some.inj h
  refine ⟨[(4, .int .i64 (-1))], [.cells 141 [.fn (.func 85) [] [.ptr 1 0, .ptr 2 0]], .cells 3 [.int .i64 a2], .cells 141 [.fn (.func 85) [] [.ptr 1 0, .ptr 2 0]]], _, ?_, ResOK.one rfl rfl, rfl, rfl⟩
  exact Le.ren [0, 1, 2] rfl rfl (by decide) ⟨rfl, trivial⟩

/- slices.ContainsFunc[[]stopwatch/api.Part,stopwatch/api.Part] -/
def F_slices_ContainsFunc_5 (rec45 : (List Part) → Int → Option Bool) (n : Nat) (a1 : List Part) (a2 : Int) : Option Bool :=
  (F_slices_IndexFunc_5 rec45 n a1 a2).bind fun r1 => some (decide (0 ≤ r1))
theorem ok_slices_ContainsFunc_5 (rec45 : (List Part) → Int → Option Bool) (hrec45 : ∀ (a1 : List Part) (a2 : Int) (r : Bool), rec45 a1 a2 = some r → C Tryz.prog 87 [.rsl 3 (List.map Part.enc a1), .fn (.func 85) [] [.ptr 0 0, .ptr 1 0]] [.cells 3 [.int .i64 a2], .cells 141 [.fn (.func 85) [] [.ptr 0 0, .ptr 1 0]]] (fun a H => a = .bool r ∧ H = [.cells 3 [.int .i64 a2], .cells 141 [.fn (.func 85) [] [.ptr 0 0, .ptr 1 0]]])) (n : Nat) (a1 : List Part) (a2 : Int) (r : Bool) (h : F_slices_ContainsFunc_5 rec45 n a1 a2 = some r) :
    C Tryz.prog 141 [.rsl 3 (List.map Part.enc a1), .fn (.func 142) [] [.ptr 0 0]] [.cells 141 [.fn (.func 85) [] [.ptr 1 0, .ptr 2 0]], .cells 3 [.int .i64 a2], .cells 141 [.fn (.func 85) [] [.ptr 1 0, .ptr 2 0]]] (fun a H => a = .bool r ∧ H = [.cells 141 [.fn (.func 85) [] [.ptr 1 0, .ptr 2 0]], .cells 3 [.int .i64 a2], .cells 141 [.fn (.func 85) [] [.ptr 1 0, .ptr 2 0]]]) := by
  refine C.of_body Tryz.func141 rfl rfl rfl ?_
  refine TC.seq ?_
  refine TC.region ?_
  refine vV (x := (.bool false)) (OpV.assign rfl rfl) ?_
  refine WO.nil ?_
  refine seqN ?_
  refine TC.seq ?_
  refine TC.region ?_
  refine vV (x := (.rsl 3 (List.map Part.enc a1))) (OpV.move rfl rfl) ?_
  refine vV (x := (.fn (.func 142) [] [.ptr 0 0])) (OpV.move rfl rfl) ?_
  obtain ⟨r1, hr1, h⟩ := bnd h
  refine WO.callD [0, 1, 2] (OpC.fn Tryz.call173 rfl rfl rfl) (ok_slices_IndexFunc_5 rec45 hrec45 _ _ _ _ hr1) ?_
  rintro _ _ ⟨rfl, rfl⟩
  refine WO.atV (x := (.int .i64 r1)) (H := [.cells 141 [.fn (.func 85) [] [.ptr 1 0, .ptr 2 0]], .cells 3 [.int .i64 a2], .cells 141 [.fn (.func 85) [] [.ptr 1 0, .ptr 2 0]]]) rfl rfl ?_
  refine vV (x := (.bool (decide (0 ≤ r1)))) (OpV.geq rfl rfl rfl) ?_
  refine vV (x := (.bool (decide (0 ≤ r1)))) (OpV.assign rfl rfl) ?_
  refine WO.nil ?_
  refine seqN ?_
  refine TC.ret ?_
  obtain rfl := Option.some.inj h
  refine ⟨[(4, .bool (decide (0 ≤ r1)))], [.cells 141 [.fn (.func 85) [] [.ptr 1 0, .ptr 2 0]], .cells 3 [.int .i64 a2], .cells 141 [.fn (.func 85) [] [.ptr 1 0, .ptr 2 0]]], _, ?_, ResOK.one rfl rfl, rfl, rfl⟩
  exact Le.ren [0, 1, 2] rfl rfl (by decide) ⟨rfl, trivial⟩

/- stopwatch/typing.all[stopwatch/api.Part] -/
def B_typing_all_7 (rec45 : (List Part) → Int → Option Bool) (n : Nat) (a1 : List Part) (a2 : Int) : Option Bool :=
  (F_slices_ContainsFunc_5 rec45 n a1 a2).bind fun r1 => some (!r1)
theorem okB_typing_all_7 (rec45 : (List Part) → Int → Option Bool) (hrec45 : ∀ (a1 : List Part) (a2 : Int) (r : Bool), rec45 a1 a2 = some r → C Tryz.prog 87 [.rsl 3 (List.map Part.enc a1), .fn (.func 85) [] [.ptr 0 0, .ptr 1 0]] [.cells 3 [.int .i64 a2], .cells 141 [.fn (.func 85) [] [.ptr 0 0, .ptr 1 0]]] (fun a H => a = .bool r ∧ H = [.cells 3 [.int .i64 a2], .cells 141 [.fn (.func 85) [] [.ptr 0 0, .ptr 1 0]]])) (n : Nat) (a1 : List Part) (a2 : Int) (r : Bool) (h : B_typing_all_7 rec45 n a1 a2 = some r) :
    C Tryz.prog 87 [.rsl 3 (List.map Part.enc a1), .fn (.func 85) [] [.ptr 0 0, .ptr 1 0]] [.cells 3 [.int .i64 a2], .cells 141 [.fn (.func 85) [] [.ptr 0 0, .ptr 1 0]]] (fun a H => a = .bool r ∧ H = [.cells 3 [.int .i64 a2], .cells 141 [.fn (.func 85) [] [.ptr 0 0, .ptr 1 0]]]) := by
  refine C.of_body Tryz.func87 rfl rfl rfl ?_
  refine TC.seq ?_
  refine TC.region ?_
  refine vH (OpH.box rfl rfl rfl rfl rfl) ?_
  refine WO.atV (x := (.ptr 2 0)) (H := [.cells 3 [.int .i64 a2], .cells 141 [.fn (.func 85) [] [.ptr 0 0, .ptr 1 0]], .cells 141 [.fn (.func 85) [] [.ptr 0 0, .ptr 1 0]]]) rfl rfl ?_
  refine vV (x := (.bool false)) (OpV.assign rfl rfl) ?_
  refine WO.nil ?_
  refine seqN ?_
  refine TC.seq ?_
  refine TC.region ?_
  refine vV (x := (.rsl 3 (List.map Part.enc a1))) (OpV.move rfl rfl) ?_
  refine vV (x := (.fn (.func 142) [] [.ptr 2 0])) (OpV.makeFunc (first := []) (cap := [.tmp 3]) rfl rfl rfl) ?_
  obtain ⟨r1, hr1, h⟩ := bnd h
  refine WO.callD [2, 0, 1] (OpC.fn Tryz.call141 rfl rfl rfl) (ok_slices_ContainsFunc_5 rec45 hrec45 _ _ _ _ hr1) ?_
  rintro _ _ ⟨rfl, rfl⟩
  refine WO.atV (x := (.bool r1)) (H := [.cells 3 [.int .i64 a2], .cells 141 [.fn (.func 85) [] [.ptr 0 0, .ptr 1 0]], .cells 141 [.fn (.func 85) [] [.ptr 0 0, .ptr 1 0]]]) rfl rfl ?_
  refine vV (x := (.bool (!r1))) (OpV.not rfl rfl) ?_
  refine vV (x := (.bool (!r1))) (OpV.assign rfl rfl) ?_
  refine WO.nil ?_
  refine seqN ?_
  refine TC.ret ?_
  obtain rfl := Option.some.inj h
  refine ⟨[(4, .bool (!r1))], [.cells 3 [.int .i64 a2], .cells 141 [.fn (.func 85) [] [.ptr 0 0, .ptr 1 0]]], _, ?_, ResOK.one rfl rfl, rfl, rfl⟩
  exact Le.ren [0, 1] rfl rfl (by decide) ⟨rfl, trivial⟩
def F_typing_all_7 : Nat → (List Part) → Int → Option Bool
  | 0 => fun _ _ => none
  | n + 1 => B_typing_all_7 (F_typing_all_7 n) n
theorem ok_typing_all_7 (n : Nat) : ∀ (a1 : List Part) (a2 : Int) (r : Bool), F_typing_all_7 n a1 a2 = some r → C Tryz.prog 87 [.rsl 3 (List.map Part.enc a1), .fn (.func 85) [] [.ptr 0 0, .ptr 1 0]] [.cells 3 [.int .i64 a2], .cells 141 [.fn (.func 85) [] [.ptr 0 0, .ptr 1 0]]] (fun a H => a = .bool r ∧ H = [.cells 3 [.int .i64 a2], .cells 141 [.fn (.func 85) [] [.ptr 0 0, .ptr 1 0]]]) := by
  induction n with
  | zero => intro a1 a2 r h; cases h
  | succ n ih => intro a1 a2 r h; exact okB_typing_all_7 _ ih n a1 a2 r h

end Go.Sw
