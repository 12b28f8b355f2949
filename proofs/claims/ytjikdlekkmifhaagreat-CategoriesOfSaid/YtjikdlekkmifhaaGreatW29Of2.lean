/- What the functions compute that CategoriesOf reaches, and that their calls refine it (part 2 of 4). -/
import Derived.Test.YtjikdlekkmifhaaGreatW29Of1
set_option linter.unusedVariables false
set_option linter.unusedSimpArgs false
set_option maxRecDepth 100000
namespace Go.Sw
open Go.Proofs

/- stopwatch/typing.numbers$2 -/
def F_typing_numbers_2 (n : Nat) (a1 : Cutoff) (a2 : Int) : Option Bool :=
  ((F_typing_within n 0 a2 [a1.Mat]).bind fun r7 => (bif r7 then (bif decide (1 ≤ a1.Lap) then (F_typing_within n 0 1099511627776 [a1.Limit]).bind fun r10 => some r10 else some false) else some false) : Option Bool).bind fun b5 => some b5
theorem ok_typing_numbers_2 (n : Nat) (a1 : Cutoff) (a2 : Int) (r : Bool) (h : F_typing_numbers_2 n a1 a2 = some r) :
    C Tryz.prog 88 [.agg (Cutoff.cells a1), .ptr 0 0] [.cells 3 [.int .i64 a2]] (fun a H => a = .bool r ∧ H = [.cells 3 [.int .i64 a2]]) := by
  refine C.of_body Tryz.func88 rfl rfl rfl ?_
  refine TC.seq ?_
  refine TC.region ?_
  refine vH (OpH.box rfl rfl rfl rfl rfl) ?_
  refine WO.atV (x := (.ptr 1 0)) (H := [.cells 3 [.int .i64 a2], .cells 122 (Cutoff.cells a1)]) rfl rfl ?_
  refine vV (x := (.bool false)) (OpV.assign rfl rfl) ?_
  refine WO.nil ?_
  refine seqN ?_
  refine TC.seq ?_
  obtain ⟨b5, h6, h⟩ := bnd h
  refine TC.cut ([(3, .bool b5)]) ([.cells 3 [.int .i64 a2]]) ?_ (fun env H hle => ?_)
  ·
    refine TC.region ?_
    refine vV (x := (.int .i64 a2)) (OpV.load rfl Tryz.isAgg3 rfl (Pts.cells rfl rfl)) ?_
    refine vV (x := (.ptr 1 0)) (OpV.fieldP fa_122_0 rfl rfl) ?_
    refine vV (x := (.int .i64 a1.Mat)) (OpV.load rfl Tryz.isAgg3 rfl (Pts.cells rfl rfl)) ?_
    refine vH (OpH.lit (xs := [.tmp 6]) (es := List.map (encI .i64) [a1.Mat]) el_39 rfl rfl rfl rfl rfl ⟨rfl, trivial⟩ rfl rfl) ?_
    refine WO.atV (x := (.osl 2 0 ([a1.Mat].length) 1)) (H := [.cells 3 [.int .i64 a2], .cells 122 (Cutoff.cells a1), .row 3 1 (List.map (encI .i64) [a1.Mat])]) rfl rfl ?_
    obtain ⟨r7, hr7, h6⟩ := bnd h6
    refine WO.callB (OpC.fn Tryz.call86 rfl rfl rfl) (LookL.cons rfl (.inl ⟨rfl, rfl⟩) (LookL.cons rfl (.inl ⟨rfl, rfl⟩) (LookL.cons rfl (.inr ⟨_, _, _, _, _, rfl, rfl, List.length_map .., rfl⟩) LookL.nil))) (ok_typing_within _ _ _ _ _ hr7) (by rintro _ _ ⟨rfl, rfl⟩; rfl) ?_
    rintro _ _ ⟨rfl, rfl⟩
    refine WO.atV (x := (.bool r7)) (H := [.cells 3 [.int .i64 a2], .cells 122 (Cutoff.cells a1), .row 3 1 (List.map (encI .i64) [a1.Mat])]) rfl rfl ?_
    refine vV (x := (.bool r7)) (OpV.move rfl rfl) ?_
    rcases bTF (r7) with hg8 | hg8
    · have h6 := ifT hg8 h6
      refine vV (x := (.ptr 1 1)) (OpV.fieldP fa_122_1 rfl rfl) ?_ (gT hg8)
      refine vV (x := (.int .i64 a1.Lap)) (OpV.load rfl Tryz.isAgg3 rfl (Pts.cells rfl rfl)) ?_ (gT hg8)
      refine vV (x := (.bool (decide (1 ≤ a1.Lap)))) (OpV.geq rfl rfl rfl) ?_ (gT hg8)
      refine vV (x := (.bool (decide (1 ≤ a1.Lap)))) (OpV.pickT hg8) ?_
      refine vV (x := (.bool (decide (1 ≤ a1.Lap)))) (OpV.move rfl rfl) ?_
      rcases bTF (decide (1 ≤ a1.Lap)) with hg9 | hg9
      · have h6 := ifT hg9 h6
        refine vV (x := (.ptr 1 2)) (OpV.fieldP fa_122_2 rfl rfl) ?_ (gT hg9)
        refine vV (x := (.int .i64 a1.Limit)) (OpV.load rfl Tryz.isAgg3 rfl (Pts.cells rfl rfl)) ?_ (gT hg9)
        refine vH (OpH.lit (xs := [.tmp 16]) (es := List.map (encI .i64) [a1.Limit]) el_39 rfl rfl rfl rfl rfl ⟨rfl, trivial⟩ rfl rfl) ?_ (gT hg9)
        refine WO.atV (x := (.osl 3 0 ([a1.Limit].length) 1)) (H := [.cells 3 [.int .i64 a2], .cells 122 (Cutoff.cells a1), .row 3 1 (List.map (encI .i64) [a1.Mat]), .row 3 1 (List.map (encI .i64) [a1.Limit])]) rfl rfl ?_
        obtain ⟨r10, hr10, h6⟩ := bnd h6
        refine WO.callB (OpC.fn Tryz.call86 rfl rfl rfl) (LookL.cons rfl (.inl ⟨rfl, rfl⟩) (LookL.cons rfl (.inl ⟨rfl, rfl⟩) (LookL.cons rfl (.inr ⟨_, _, _, _, _, rfl, rfl, List.length_map .., rfl⟩) LookL.nil))) (ok_typing_within _ _ _ _ _ hr10) (by rintro _ _ ⟨rfl, rfl⟩; rfl) ?_ (gT hg9)
        rintro _ _ ⟨rfl, rfl⟩
        refine WO.atV (x := (.bool r10)) (H := [.cells 3 [.int .i64 a2], .cells 122 (Cutoff.cells a1), .row 3 1 (List.map (encI .i64) [a1.Mat]), .row 3 1 (List.map (encI .i64) [a1.Limit])]) rfl rfl ?_
        refine vV (x := (.bool r10)) (OpV.pickT hg9) ?_
        refine vV (x := (.bool r10)) (OpV.assign rfl rfl) ?_
        refine WO.nil ?_
        obtain rfl := Option.some.inj h6
        refine cutN ?_
        exact Le.ren [0] rfl rfl (by decide) ⟨rfl, trivial⟩
      · have h6 := ifF hg9 h6
        refine vS (gF hg9) ?_
        refine vS (gF hg9) ?_
        refine vS (gF hg9) ?_
        refine vS (gF hg9) ?_
        refine vV (x := (.bool false)) (OpV.pickF hg9) ?_
        refine vV (x := (.bool false)) (OpV.assign rfl rfl) ?_
        refine WO.nil ?_
        obtain rfl := Option.some.inj h6
        refine cutN ?_
        exact Le.ren [0] rfl rfl (by decide) ⟨rfl, trivial⟩
    · have h6 := ifF hg8 h6
      refine vS (gF hg8) ?_
      refine vS (gF hg8) ?_
      refine vS (gF hg8) ?_
      refine vV (x := (.bool false)) (OpV.pickF hg8) ?_
      refine vV (x := (.bool false)) (OpV.move rfl rfl) ?_
      refine vS (gF rfl) ?_
      refine vS (gF rfl) ?_
      refine vS (gF rfl) ?_
      refine vS (gF rfl) ?_
      refine vV (x := (.bool false)) (OpV.pickF rfl) ?_
      refine vV (x := (.bool false)) (OpV.assign rfl rfl) ?_
      refine WO.nil ?_
      obtain rfl := Option.some.inj h6
      refine cutN ?_
      exact Le.ren [0] rfl rfl (by decide) ⟨rfl, trivial⟩
  refine seqN (TC.le hle ?_)
  refine TC.ret ?_
  obtain rfl := Option.some.inj h
  refine ⟨[(3, .bool b5)], [.cells 3 [.int .i64 a2]], _, ?_, ResOK.one rfl rfl, rfl, rfl⟩
  exact Le.ren [0] rfl rfl (by decide) ⟨rfl, trivial⟩

/- stopwatch/typing.all[stopwatch/api.Cutoff]$1 -/
def F_typing_all_10 (n : Nat) (a1 : Cutoff) (a2 : Int) : Option Bool :=
  (F_typing_numbers_2 n a1 a2).bind fun r1 => some (!r1)
theorem ok_typing_all_10 (n : Nat) (a1 : Cutoff) (a2 : Int) (r : Bool) (h : F_typing_all_10 n a1 a2 = some r) :
    C Tryz.prog 144 [.agg (Cutoff.cells a1), .ptr 0 0] [.cells 144 [.fn (.func 88) [] [.ptr 1 0]], .cells 3 [.int .i64 a2]] (fun a H => a = .bool r ∧ H = [.cells 144 [.fn (.func 88) [] [.ptr 1 0]], .cells 3 [.int .i64 a2]]) := by
  refine C.of_body Tryz.func144 rfl rfl rfl ?_
  refine TC.seq ?_
  refine TC.region ?_
  refine vH (OpH.box rfl rfl rfl rfl rfl) ?_
  refine WO.atV (x := (.ptr 2 0)) (H := [.cells 144 [.fn (.func 88) [] [.ptr 1 0]], .cells 3 [.int .i64 a2], .cells 122 (Cutoff.cells a1)]) rfl rfl ?_
  refine vV (x := (.bool false)) (OpV.assign rfl rfl) ?_
  refine WO.nil ?_
  refine seqN ?_
  refine TC.seq ?_
  refine TC.region ?_
  refine vV (x := (.fn (.func 88) [] [.ptr 1 0])) (OpV.load rfl Tryz.isAgg144 rfl (Pts.cells rfl rfl)) ?_
  refine vV (x := (.agg (Cutoff.cells a1))) (OpV.loadA rfl Tryz.isAgg122 Tryz.sizeOf122 rfl (Pts.cells rfl rfl) rfl rfl) ?_
  obtain ⟨r1, hr1, h⟩ := bnd h
  refine WO.callD [1] (OpC.clo Tryz.call88 rfl rfl rfl rfl) (ok_typing_numbers_2 _ _ _ _ hr1) ?_
  rintro _ _ ⟨rfl, rfl⟩
  refine WO.atV (x := (.bool r1)) (H := [.cells 144 [.fn (.func 88) [] [.ptr 1 0]], .cells 3 [.int .i64 a2], .cells 122 (Cutoff.cells a1)]) rfl rfl ?_
  refine vV (x := (.bool (!r1))) (OpV.not rfl rfl) ?_
  refine vV (x := (.bool (!r1))) (OpV.assign rfl rfl) ?_
  refine WO.nil ?_
  refine seqN ?_
  refine TC.ret ?_
  obtain rfl := Option.some.inj h
  refine ⟨[(3, .bool (!r1))], [.cells 144 [.fn (.func 88) [] [.ptr 1 0]], .cells 3 [.int .i64 a2]], _, ?_, ResOK.one rfl rfl, rfl, rfl⟩
  exact Le.ren [0, 1] rfl rfl (by decide) ⟨rfl, trivial⟩

/- slices.IndexFunc[[]stopwatch/api.Cutoff,stopwatch/api.Cutoff] -/
def F_slices_IndexFunc_6_L1 (n : Nat) (a1 : List Cutoff) (a2 : Int) (s13 : Int) : Option (Ctl Int (Ctl Unit Int)) :=
  (bif decide (s13 < (a1.length : Int)) then (idx a1 s13).bind fun x17 => (F_typing_all_10 n x17 a2).bind fun r18 => (bif r18 then some (.done (.done s13)) else some (.cont (IntKind.i64.wrap (s13 + 1)))) else some (.done (.cont ())))
def F_slices_IndexFunc_6 (n : Nat) (a1 : List Cutoff) (a2 : Int) : Option Int :=
  (iter (F_slices_IndexFunc_6_L1 n a1 a2) n 0 : Option (Ctl Unit Int)).bind fun b10 => match b10 with | .cont sb10 => (some (-1)) | .done sb10 => some sb10
theorem ok_slices_IndexFunc_6 (n : Nat) (a1 : List Cutoff) (a2 : Int) (r : Int) (h : F_slices_IndexFunc_6 n a1 a2 = some r) :
    C Tryz.prog 174 [.rsl 3 (List.map Cutoff.cells a1), .fn (.func 144) [] [.ptr 0 0]] [.cells 144 [.fn (.func 88) [] [.ptr 1 0]], .cells 3 [.int .i64 a2]] (fun a H => a = .int .i64 r ∧ H = [.cells 144 [.fn (.func 88) [] [.ptr 1 0]], .cells 3 [.int .i64 a2]]) := by
  refine C.of_body Tryz.func174 rfl rfl rfl ?_
  refine TC.seq ?_
  refine TC.region ?_
  refine vV (x := (.int .i64 0)) (OpV.assign rfl rfl) ?_
  refine WO.nil ?_
  refine seqN ?_
  refine TC.seq ?_
  refine TC.seq ?_
  refine TC.region ?_
  refine vV (x := (.rsl 3 (List.map Cutoff.cells a1))) (OpV.move rfl rfl) ?_
  refine vV (x := (.int .i64 (a1.length : Int))) (OpV.lenM Tryz.runUnderlying60) ?_
  refine vV (x := (.int .i64 0)) (OpV.move rfl rfl) ?_
  refine WO.nil ?_
  refine seqN ?_
  obtain ⟨b10, h11, h⟩ := bnd h
  refine TC.cutE (b := b10) (fun sb10 => []) (fun sb10 => [.cells 144 [.fn (.func 88) [] [.ptr 1 0]], .cells 3 [.int .i64 a2]]) ?_ (fun sb10 env H hbe hle => ?_)
  ·
    refine TC.block ?_
    refine TC.loop (E := fun s13 => [(0, .rsl 3 (List.map Cutoff.cells a1)), (1, .fn (.func 144) [] [.ptr 0 0]), (7, .int .i64 (a1.length : Int)), (8, .int .i64 s13)]) (Hp := fun s13 => [.cells 144 [.fn (.func 88) [] [.ptr 1 0]], .cells 3 [.int .i64 a2]]) h11 ?_ ?_
    ·
      exact Le.ren [0, 1] rfl rfl (by decide) ⟨rfl, rfl, rfl, rfl, trivial⟩
    intro s13 d14 h15 hb12
    refine TC.seq ?_
    refine TC.region ?_
    refine vV (x := (.bool (decide (s13 < (a1.length : Int))))) (OpV.lss rfl rfl rfl) ?_
    refine WO.nil ?_
    refine seqN ?_
    refine TC.seq ?_
    refine TC.condS rfl (fun hc16 => ?_) (fun hc16 => ?_)
    · have h15 := ifF hc16 h15
      refine TC.exit ?_
      refine seqX ?_
      refine loopX h15 ?_
      obtain rfl := hb12 _ (Option.some.inj h15).symm
      refine bloE ?_
      refine cutEN rfl ?_
      exact Le.ren [0, 1] rfl rfl (by decide) trivial
    have h15 := ifT hc16 h15
    refine TC.skip ?_
    refine seqN ?_
    refine TC.seq ?_
    refine TC.block ?_
    refine TC.seq ?_
    refine TC.region ?_
    refine vV (x := (.int .i64 s13)) (OpV.move rfl rfl) ?_
    refine vV (x := (.int .i64 s13)) (OpV.assign rfl rfl) ?_
    refine WO.nil ?_
    refine seqN ?_
    refine TC.seq ?_
    refine TC.region ?_
    refine vV (x := (.fn (.func 144) [] [.ptr 0 0])) (OpV.move rfl rfl) ?_
    refine vV (x := (.rsl 3 (List.map Cutoff.cells a1))) (OpV.move rfl rfl) ?_
    refine vV (x := (.int .i64 s13)) (OpV.move rfl rfl) ?_
    obtain ⟨x17, hx17, h15⟩ := bnd h15
    refine vV (x := (.rp [.int .i64 x17.Mat, .int .i64 x17.Lap, .int .i64 x17.Limit])) (OpV.ixM (e := Cutoff.cells) (v := x17) hx17 Tryz.runUnderlying60 Tryz.sizeOf122) ?_
    refine vV (x := (.agg (Cutoff.cells x17))) (OpV.loadA rfl Tryz.isAgg122 Tryz.sizeOf122 rfl Pts.rp rfl rfl) ?_
    obtain ⟨r18, hr18, h15⟩ := bnd h15
    refine WO.callD [0, 1] (OpC.clo Tryz.call144 rfl rfl rfl rfl) (ok_typing_all_10 _ _ _ _ hr18) ?_
    rintro _ _ ⟨rfl, rfl⟩
    refine WO.atV (x := (.bool r18)) (H := [.cells 144 [.fn (.func 88) [] [.ptr 1 0]], .cells 3 [.int .i64 a2]]) rfl rfl ?_
    refine WO.nil ?_
    refine seqN ?_
    refine TC.cond rfl (fun hc19 => ?_) (fun hc19 => ?_)
    · have h15 := ifT hc19 h15
      refine TC.seq ?_
      refine TC.region ?_
      refine vV (x := (.int .i64 s13)) (OpV.move rfl rfl) ?_
      refine vV (x := (.int .i64 s13)) (OpV.assign rfl rfl) ?_
      refine WO.nil ?_
      refine seqN ?_
      refine TC.ret ?_
      refine bloR ?_
      refine seqR ?_
      refine loopR h15 ?_
      obtain rfl := hb12 _ (Option.some.inj h15).symm
      refine bloR ?_
      refine cutER ?_
      refine seqR ?_
      obtain rfl := Option.some.inj h
      refine ⟨[(4, .int .i64 s13)], [.cells 144 [.fn (.func 88) [] [.ptr 1 0]], .cells 3 [.int .i64 a2]], _, ?_, ResOK.one rfl rfl, rfl, rfl⟩
      exact Le.ren [0, 1] rfl rfl (by decide) ⟨rfl, trivial⟩
    have h15 := ifF hc19 h15
    refine TC.skip ?_
    refine bloN ?_
    refine seqN ?_
    refine TC.region ?_
    refine vV (x := (.int .i64 (IntKind.i64.wrap (s13 + 1)))) (OpV.add rfl rfl rfl) ?_
    refine vV (x := (.int .i64 (IntKind.i64.wrap (s13 + 1)))) (OpV.move rfl rfl) ?_
    refine WO.nil ?_
    refine loopN h15 ?_
    exact Le.ren [0, 1] rfl rfl (by decide) ⟨rfl, rfl, rfl, rfl, trivial⟩
  subst hbe
  refine seqN (TC.le hle ?_)
  refine TC.seq ?_
  refine TC.region ?_
  refine vV (x := (.int .i64 (-1))) (OpV.assign rfl rfl) ?_
  refine WO.nil ?_
  refine seqN ?_
  refine TC.ret ?_
  obtain rfl := Option.some.inj h
  refine ⟨[(4, .int .i64 (-1))], [.cells 144 [.fn (.func 88) [] [.ptr 1 0]], .cells 3 [.int .i64 a2]], _, ?_, ResOK.one rfl rfl, rfl, rfl⟩
  exact Le.ren [0, 1] rfl rfl (by decide) ⟨rfl, trivial⟩

/- slices.ContainsFunc[[]stopwatch/api.Cutoff,stopwatch/api.Cutoff] -/
def F_slices_ContainsFunc_6 (n : Nat) (a1 : List Cutoff) (a2 : Int) : Option Bool :=
  (F_slices_IndexFunc_6 n a1 a2).bind fun r1 => some (decide (0 ≤ r1))
theorem ok_slices_ContainsFunc_6 (n : Nat) (a1 : List Cutoff) (a2 : Int) (r : Bool) (h : F_slices_ContainsFunc_6 n a1 a2 = some r) :
    C Tryz.prog 143 [.rsl 3 (List.map Cutoff.cells a1), .fn (.func 144) [] [.ptr 0 0]] [.cells 144 [.fn (.func 88) [] [.ptr 1 0]], .cells 3 [.int .i64 a2]] (fun a H => a = .bool r ∧ H = [.cells 144 [.fn (.func 88) [] [.ptr 1 0]], .cells 3 [.int .i64 a2]]) := by
  refine C.of_body Tryz.func143 rfl rfl rfl ?_
  refine TC.seq ?_
  refine TC.region ?_
  refine vV (x := (.bool false)) (OpV.assign rfl rfl) ?_
  refine WO.nil ?_
  refine seqN ?_
  refine TC.seq ?_
  refine TC.region ?_
  refine vV (x := (.rsl 3 (List.map Cutoff.cells a1))) (OpV.move rfl rfl) ?_
  refine vV (x := (.fn (.func 144) [] [.ptr 0 0])) (OpV.move rfl rfl) ?_
  obtain ⟨r1, hr1, h⟩ := bnd h
  refine WO.callD [0, 1] (OpC.fn Tryz.call174 rfl rfl rfl) (ok_slices_IndexFunc_6 _ _ _ _ hr1) ?_
  rintro _ _ ⟨rfl, rfl⟩
  refine WO.atV (x := (.int .i64 r1)) (H := [.cells 144 [.fn (.func 88) [] [.ptr 1 0]], .cells 3 [.int .i64 a2]]) rfl rfl ?_
  refine vV (x := (.bool (decide (0 ≤ r1)))) (OpV.geq rfl rfl rfl) ?_
  refine vV (x := (.bool (decide (0 ≤ r1)))) (OpV.assign rfl rfl) ?_
  refine WO.nil ?_
  refine seqN ?_
  refine TC.ret ?_
  obtain rfl := Option.some.inj h
  refine ⟨[(4, .bool (decide (0 ≤ r1)))], [.cells 144 [.fn (.func 88) [] [.ptr 1 0]], .cells 3 [.int .i64 a2]], _, ?_, ResOK.one rfl rfl, rfl, rfl⟩
  exact Le.ren [0, 1] rfl rfl (by decide) ⟨rfl, trivial⟩

/- stopwatch/typing.all[stopwatch/api.Cutoff] -/
def F_typing_all_9 (n : Nat) (a1 : List Cutoff) (a2 : Int) : Option Bool :=
  (F_slices_ContainsFunc_6 n a1 a2).bind fun r1 => some (!r1)
theorem ok_typing_all_9 (n : Nat) (a1 : List Cutoff) (a2 : Int) (r : Bool) (h : F_typing_all_9 n a1 a2 = some r) :
    C Tryz.prog 90 [.rsl 3 (List.map Cutoff.cells a1), .fn (.func 88) [] [.ptr 0 0]] [.cells 3 [.int .i64 a2]] (fun a H => a = .bool r ∧ H = [.cells 3 [.int .i64 a2]]) := by
  refine C.of_body Tryz.func90 rfl rfl rfl ?_
  refine TC.seq ?_
  refine TC.region ?_
  refine vH (OpH.box rfl rfl rfl rfl rfl) ?_
  refine WO.atV (x := (.ptr 1 0)) (H := [.cells 3 [.int .i64 a2], .cells 144 [.fn (.func 88) [] [.ptr 0 0]]]) rfl rfl ?_
  refine vV (x := (.bool false)) (OpV.assign rfl rfl) ?_
  refine WO.nil ?_
  refine seqN ?_
  refine TC.seq ?_
  refine TC.region ?_
  refine vV (x := (.rsl 3 (List.map Cutoff.cells a1))) (OpV.move rfl rfl) ?_
  refine vV (x := (.fn (.func 144) [] [.ptr 1 0])) (OpV.makeFunc (first := []) (cap := [.tmp 3]) rfl rfl rfl) ?_
  obtain ⟨r1, hr1, h⟩ := bnd h
  refine WO.callD [1, 0] (OpC.fn Tryz.call143 rfl rfl rfl) (ok_slices_ContainsFunc_6 _ _ _ _ hr1) ?_
  rintro _ _ ⟨rfl, rfl⟩
  refine WO.atV (x := (.bool r1)) (H := [.cells 3 [.int .i64 a2], .cells 144 [.fn (.func 88) [] [.ptr 0 0]]]) rfl rfl ?_
  refine vV (x := (.bool (!r1))) (OpV.not rfl rfl) ?_
  refine vV (x := (.bool (!r1))) (OpV.assign rfl rfl) ?_
  refine WO.nil ?_
  refine seqN ?_
  refine TC.ret ?_
  obtain rfl := Option.some.inj h
  refine ⟨[(4, .bool (!r1))], [.cells 3 [.int .i64 a2]], _, ?_, ResOK.one rfl rfl, rfl, rfl⟩
  exact Le.ren [0] rfl rfl (by decide) ⟨rfl, trivial⟩

/- stopwatch/typing.numbers$3 -/
def F_typing_numbers_3 (n : Nat) (a1 : Distance) (a2 : Int) : Option Bool :=
  ((F_typing_within n 1 3 [a1.Timing]).bind fun r10 => (bif r10 then (F_typing_within n (-1) a2 [a1.Extra]).bind fun r12 => (bif r12 then (F_typing_all_7 n a1.Route a2).bind fun r14 => (bif r14 then (F_typing_all_9 n a1.Cutoffs a2).bind fun r16 => some r16 else some false) else some false) else some false) : Option Bool).bind fun b8 => some b8
theorem ok_typing_numbers_3 (n : Nat) (a1 : Distance) (a2 : Int) (r : Bool) (h : F_typing_numbers_3 n a1 a2 = some r) :
    C Tryz.prog 89 [.agg (Distance.cells a1), .ptr 0 0, .ptr 1 0, .ptr 2 0] [.cells 3 [.int .i64 a2], .cells 141 [.fn (.func 85) [] [.ptr 0 0, .ptr 1 0]], .cells 144 [.fn (.func 88) [] [.ptr 0 0]]] (fun a H => a = .bool r ∧ H = [.cells 3 [.int .i64 a2], .cells 141 [.fn (.func 85) [] [.ptr 0 0, .ptr 1 0]], .cells 144 [.fn (.func 88) [] [.ptr 0 0]]]) := by
  refine C.of_body Tryz.func89 rfl rfl rfl ?_
  refine TC.seq ?_
  refine TC.region ?_
  refine vH (OpH.box rfl rfl rfl rfl rfl) ?_
  refine WO.atV (x := (.ptr 3 0)) (H := [.cells 3 [.int .i64 a2], .cells 141 [.fn (.func 85) [] [.ptr 0 0, .ptr 1 0]], .cells 144 [.fn (.func 88) [] [.ptr 0 0]], .cells 62 (Distance.cells a1)]) rfl rfl ?_
  refine vV (x := (.bool false)) (OpV.assign rfl rfl) ?_
  refine WO.nil ?_
  refine seqN ?_
  refine TC.seq ?_
  obtain ⟨b8, h9, h⟩ := bnd h
  refine TC.cut ([(5, .bool b8)]) ([.cells 3 [.int .i64 a2], .cells 141 [.fn (.func 85) [] [.ptr 0 0, .ptr 1 0]], .cells 144 [.fn (.func 88) [] [.ptr 0 0]]]) ?_ (fun env H hle => ?_)
  ·
    refine TC.region ?_
    refine vV (x := (.ptr 3 2)) (OpV.fieldP fa_62_2 rfl rfl) ?_
    refine vV (x := (.int .i64 a1.Timing)) (OpV.load rfl Tryz.isAgg3 rfl (Pts.cells rfl rfl)) ?_
    refine vH (OpH.lit (xs := [.tmp 7]) (es := List.map (encI .i64) [a1.Timing]) el_39 rfl rfl rfl rfl rfl ⟨rfl, trivial⟩ rfl rfl) ?_
    refine WO.atV (x := (.osl 4 0 ([a1.Timing].length) 1)) (H := [.cells 3 [.int .i64 a2], .cells 141 [.fn (.func 85) [] [.ptr 0 0, .ptr 1 0]], .cells 144 [.fn (.func 88) [] [.ptr 0 0]], .cells 62 (Distance.cells a1), .row 3 1 (List.map (encI .i64) [a1.Timing])]) rfl rfl ?_
    obtain ⟨r10, hr10, h9⟩ := bnd h9
    refine WO.callB (OpC.fn Tryz.call86 rfl rfl rfl) (LookL.cons rfl (.inl ⟨rfl, rfl⟩) (LookL.cons rfl (.inl ⟨rfl, rfl⟩) (LookL.cons rfl (.inr ⟨_, _, _, _, _, rfl, rfl, List.length_map .., rfl⟩) LookL.nil))) (ok_typing_within _ _ _ _ _ hr10) (by rintro _ _ ⟨rfl, rfl⟩; rfl) ?_
    rintro _ _ ⟨rfl, rfl⟩
    refine WO.atV (x := (.bool r10)) (H := [.cells 3 [.int .i64 a2], .cells 141 [.fn (.func 85) [] [.ptr 0 0, .ptr 1 0]], .cells 144 [.fn (.func 88) [] [.ptr 0 0]], .cells 62 (Distance.cells a1), .row 3 1 (List.map (encI .i64) [a1.Timing])]) rfl rfl ?_
    refine vV (x := (.bool r10)) (OpV.move rfl rfl) ?_
    rcases bTF (r10) with hg11 | hg11
    · have h9 := ifT hg11 h9
      refine vV (x := (.int .i64 a2)) (OpV.load rfl Tryz.isAgg3 rfl (Pts.cells rfl rfl)) ?_ (gT hg11)
      refine vV (x := (.ptr 3 4)) (OpV.fieldP fa_62_4 rfl rfl) ?_ (gT hg11)
      refine vV (x := (.int .i64 a1.Extra)) (OpV.load rfl Tryz.isAgg3 rfl (Pts.cells rfl rfl)) ?_ (gT hg11)
      refine vH (OpH.lit (xs := [.tmp 13]) (es := List.map (encI .i64) [a1.Extra]) el_39 rfl rfl rfl rfl rfl ⟨rfl, trivial⟩ rfl rfl) ?_ (gT hg11)
      refine WO.atV (x := (.osl 5 0 ([a1.Extra].length) 1)) (H := [.cells 3 [.int .i64 a2], .cells 141 [.fn (.func 85) [] [.ptr 0 0, .ptr 1 0]], .cells 144 [.fn (.func 88) [] [.ptr 0 0]], .cells 62 (Distance.cells a1), .row 3 1 (List.map (encI .i64) [a1.Timing]), .row 3 1 (List.map (encI .i64) [a1.Extra])]) rfl rfl ?_
      obtain ⟨r12, hr12, h9⟩ := bnd h9
      refine WO.callB (OpC.fn Tryz.call86 rfl rfl rfl) (LookL.cons rfl (.inl ⟨rfl, rfl⟩) (LookL.cons rfl (.inl ⟨rfl, rfl⟩) (LookL.cons rfl (.inr ⟨_, _, _, _, _, rfl, rfl, List.length_map .., rfl⟩) LookL.nil))) (ok_typing_within _ _ _ _ _ hr12) (by rintro _ _ ⟨rfl, rfl⟩; rfl) ?_ (gT hg11)
      rintro _ _ ⟨rfl, rfl⟩
      refine WO.atV (x := (.bool r12)) (H := [.cells 3 [.int .i64 a2], .cells 141 [.fn (.func 85) [] [.ptr 0 0, .ptr 1 0]], .cells 144 [.fn (.func 88) [] [.ptr 0 0]], .cells 62 (Distance.cells a1), .row 3 1 (List.map (encI .i64) [a1.Timing]), .row 3 1 (List.map (encI .i64) [a1.Extra])]) rfl rfl ?_
      refine vV (x := (.bool r12)) (OpV.pickT hg11) ?_
      refine vV (x := (.bool r12)) (OpV.move rfl rfl) ?_
      rcases bTF (r12) with hg13 | hg13
      · have h9 := ifT hg13 h9
        refine vV (x := (.ptr 3 1)) (OpV.fieldP fa_62_1 rfl rfl) ?_ (gT hg13)
        refine vV (x := (.rsl 3 (List.map Part.enc a1.Route))) (OpV.load rfl Tryz.isAgg59 rfl (Pts.cells rfl rfl)) ?_ (gT hg13)
        refine vV (x := (.fn (.func 85) [] [.ptr 0 0, .ptr 1 0])) (OpV.load rfl Tryz.isAgg141 rfl (Pts.cells rfl rfl)) ?_ (gT hg13)
        obtain ⟨r14, hr14, h9⟩ := bnd h9
        refine WO.callD [0, 1] (OpC.fn Tryz.call87 rfl rfl rfl) (ok_typing_all_7 _ _ _ _ hr14) ?_ (hg := (gT hg13))
        rintro _ _ ⟨rfl, rfl⟩
        refine WO.atV (x := (.bool r14)) (H := [.cells 3 [.int .i64 a2], .cells 141 [.fn (.func 85) [] [.ptr 0 0, .ptr 1 0]], .cells 144 [.fn (.func 88) [] [.ptr 0 0]], .cells 62 (Distance.cells a1), .row 3 1 (List.map (encI .i64) [a1.Timing]), .row 3 1 (List.map (encI .i64) [a1.Extra])]) rfl rfl ?_
        refine vV (x := (.bool r14)) (OpV.pickT hg13) ?_
        refine vV (x := (.bool r14)) (OpV.move rfl rfl) ?_
        rcases bTF (r14) with hg15 | hg15
        · have h9 := ifT hg15 h9
          refine vV (x := (.ptr 3 3)) (OpV.fieldP fa_62_3 rfl rfl) ?_ (gT hg15)
          refine vV (x := (.rsl 3 (List.map Cutoff.cells a1.Cutoffs))) (OpV.load rfl Tryz.isAgg60 rfl (Pts.cells rfl rfl)) ?_ (gT hg15)
          refine vV (x := (.fn (.func 88) [] [.ptr 0 0])) (OpV.load rfl Tryz.isAgg144 rfl (Pts.cells rfl rfl)) ?_ (gT hg15)
          obtain ⟨r16, hr16, h9⟩ := bnd h9
          refine WO.callD [0] (OpC.fn Tryz.call90 rfl rfl rfl) (ok_typing_all_9 _ _ _ _ hr16) ?_ (hg := (gT hg15))
          rintro _ _ ⟨rfl, rfl⟩
          refine WO.atV (x := (.bool r16)) (H := [.cells 3 [.int .i64 a2], .cells 141 [.fn (.func 85) [] [.ptr 0 0, .ptr 1 0]], .cells 144 [.fn (.func 88) [] [.ptr 0 0]], .cells 62 (Distance.cells a1), .row 3 1 (List.map (encI .i64) [a1.Timing]), .row 3 1 (List.map (encI .i64) [a1.Extra])]) rfl rfl ?_
          refine vV (x := (.bool r16)) (OpV.pickT hg15) ?_
          refine vV (x := (.bool r16)) (OpV.assign rfl rfl) ?_
          refine WO.nil ?_
          obtain rfl := Option.some.inj h9
          refine cutN ?_
          exact Le.ren [0, 1, 2] rfl rfl (by decide) ⟨rfl, trivial⟩
        · have h9 := ifF hg15 h9
          refine vS (gF hg15) ?_
          refine vS (gF hg15) ?_
          refine vS (gF hg15) ?_
          refine vS (gF hg15) ?_
          refine vV (x := (.bool false)) (OpV.pickF hg15) ?_
          refine vV (x := (.bool false)) (OpV.assign rfl rfl) ?_
          refine WO.nil ?_
          obtain rfl := Option.some.inj h9
          refine cutN ?_
          exact Le.ren [0, 1, 2] rfl rfl (by decide) ⟨rfl, trivial⟩
      · have h9 := ifF hg13 h9
        refine vS (gF hg13) ?_
        refine vS (gF hg13) ?_
        refine vS (gF hg13) ?_
        refine vS (gF hg13) ?_
        refine vV (x := (.bool false)) (OpV.pickF hg13) ?_
        refine vV (x := (.bool false)) (OpV.move rfl rfl) ?_
        refine vS (gF rfl) ?_
        refine vS (gF rfl) ?_
        refine vS (gF rfl) ?_
        refine vS (gF rfl) ?_
        refine vV (x := (.bool false)) (OpV.pickF rfl) ?_
        refine vV (x := (.bool false)) (OpV.assign rfl rfl) ?_
        refine WO.nil ?_
        obtain rfl := Option.some.inj h9
        refine cutN ?_
        exact Le.ren [0, 1, 2] rfl rfl (by decide) ⟨rfl, trivial⟩
    · have h9 := ifF hg11 h9
      refine vS (gF hg11) ?_
      refine vS (gF hg11) ?_
      refine vS (gF hg11) ?_
      refine vS (gF hg11) ?_
      refine vS (gF hg11) ?_
      refine vV (x := (.bool false)) (OpV.pickF hg11) ?_
      refine vV (x := (.bool false)) (OpV.move rfl rfl) ?_
      refine vS (gF rfl) ?_
      refine vS (gF rfl) ?_
      refine vS (gF rfl) ?_
      refine vS (gF rfl) ?_
      refine vV (x := (.bool false)) (OpV.pickF rfl) ?_
      refine vV (x := (.bool false)) (OpV.move rfl rfl) ?_
      refine vS (gF rfl) ?_
      refine vS (gF rfl) ?_
      refine vS (gF rfl) ?_
      refine vS (gF rfl) ?_
      refine vV (x := (.bool false)) (OpV.pickF rfl) ?_
      refine vV (x := (.bool false)) (OpV.assign rfl rfl) ?_
      refine WO.nil ?_
      obtain rfl := Option.some.inj h9
      refine cutN ?_
      exact Le.ren [0, 1, 2] rfl rfl (by decide) ⟨rfl, trivial⟩
  refine seqN (TC.le hle ?_)
  refine TC.ret ?_
  obtain rfl := Option.some.inj h
  refine ⟨[(5, .bool b8)], [.cells 3 [.int .i64 a2], .cells 141 [.fn (.func 85) [] [.ptr 0 0, .ptr 1 0]], .cells 144 [.fn (.func 88) [] [.ptr 0 0]]], _, ?_, ResOK.one rfl rfl, rfl, rfl⟩
  exact Le.ren [0, 1, 2] rfl rfl (by decide) ⟨rfl, trivial⟩

/- stopwatch/typing.all[stopwatch/api.Distance]$1 -/
def F_typing_all_6 (n : Nat) (a1 : Distance) (a2 : Int) : Option Bool :=
  (F_typing_numbers_3 n a1 a2).bind fun r1 => some (!r1)
theorem ok_typing_all_6 (n : Nat) (a1 : Distance) (a2 : Int) (r : Bool) (h : F_typing_all_6 n a1 a2 = some r) :
    C Tryz.prog 110 [.agg (Distance.cells a1), .ptr 0 0] [.cells 95 [.fn (.func 89) [] [.ptr 1 0, .ptr 2 0, .ptr 3 0]], .cells 3 [.int .i64 a2], .cells 141 [.fn (.func 85) [] [.ptr 1 0, .ptr 2 0]], .cells 144 [.fn (.func 88) [] [.ptr 1 0]]] (fun a H => a = .bool r ∧ H = [.cells 95 [.fn (.func 89) [] [.ptr 1 0, .ptr 2 0, .ptr 3 0]], .cells 3 [.int .i64 a2], .cells 141 [.fn (.func 85) [] [.ptr 1 0, .ptr 2 0]], .cells 144 [.fn (.func 88) [] [.ptr 1 0]]]) := by
  refine C.of_body Tryz.func110 rfl rfl rfl ?_
  refine TC.seq ?_
  refine TC.region ?_
  refine vH (OpH.box rfl rfl rfl rfl rfl) ?_
  refine WO.atV (x := (.ptr 4 0)) (H := [.cells 95 [.fn (.func 89) [] [.ptr 1 0, .ptr 2 0, .ptr 3 0]], .cells 3 [.int .i64 a2], .cells 141 [.fn (.func 85) [] [.ptr 1 0, .ptr 2 0]], .cells 144 [.fn (.func 88) [] [.ptr 1 0]], .cells 62 (Distance.cells a1)]) rfl rfl ?_
  refine vV (x := (.bool false)) (OpV.assign rfl rfl) ?_
  refine WO.nil ?_
  refine seqN ?_
  refine TC.seq ?_
  refine TC.region ?_
  refine vV (x := (.fn (.func 89) [] [.ptr 1 0, .ptr 2 0, .ptr 3 0])) (OpV.load rfl Tryz.isAgg95 rfl (Pts.cells rfl rfl)) ?_
  refine vV (x := (.agg (Distance.cells a1))) (OpV.loadA rfl Tryz.isAgg62 Tryz.sizeOf62 rfl (Pts.cells rfl rfl) rfl rfl) ?_
  obtain ⟨r1, hr1, h⟩ := bnd h
  refine WO.callD [1, 2, 3] (OpC.clo Tryz.call89 rfl rfl rfl rfl) (ok_typing_numbers_3 _ _ _ _ hr1) ?_
  rintro _ _ ⟨rfl, rfl⟩
  refine WO.atV (x := (.bool r1)) (H := [.cells 95 [.fn (.func 89) [] [.ptr 1 0, .ptr 2 0, .ptr 3 0]], .cells 3 [.int .i64 a2], .cells 141 [.fn (.func 85) [] [.ptr 1 0, .ptr 2 0]], .cells 144 [.fn (.func 88) [] [.ptr 1 0]], .cells 62 (Distance.cells a1)]) rfl rfl ?_
  refine vV (x := (.bool (!r1))) (OpV.not rfl rfl) ?_
  refine vV (x := (.bool (!r1))) (OpV.assign rfl rfl) ?_
  refine WO.nil ?_
  refine seqN ?_
  refine TC.ret ?_
  obtain rfl := Option.some.inj h
  refine ⟨[(3, .bool (!r1))], [.cells 95 [.fn (.func 89) [] [.ptr 1 0, .ptr 2 0, .ptr 3 0]], .cells 3 [.int .i64 a2], .cells 141 [.fn (.func 85) [] [.ptr 1 0, .ptr 2 0]], .cells 144 [.fn (.func 88) [] [.ptr 1 0]]], _, ?_, ResOK.one rfl rfl, rfl, rfl⟩
  exact Le.ren [0, 1, 2, 3] rfl rfl (by decide) ⟨rfl, trivial⟩

/- slices.IndexFunc[[]stopwatch/api.Distance,stopwatch/api.Distance] -/
def F_slices_IndexFunc_4_L1 (n : Nat) (a1 : List Distance) (a2 : Int) (s13 : Int) : Option (Ctl Int (Ctl Unit Int)) :=
  (bif decide (s13 < (a1.length : Int)) then (idx a1 s13).bind fun x17 => (F_typing_all_6 n x17 a2).bind fun r18 => (bif r18 then some (.done (.done s13)) else some (.cont (IntKind.i64.wrap (s13 + 1)))) else some (.done (.cont ())))
def F_slices_IndexFunc_4 (n : Nat) (a1 : List Distance) (a2 : Int) : Option Int :=
  (iter (F_slices_IndexFunc_4_L1 n a1 a2) n 0 : Option (Ctl Unit Int)).bind fun b10 => match b10 with | .cont sb10 => (some (-1)) | .done sb10 => some sb10
theorem ok_slices_IndexFunc_4 (n : Nat) (a1 : List Distance) (a2 : Int) (r : Int) (h : F_slices_IndexFunc_4 n a1 a2 = some r) :
    C Tryz.prog 160 [.rsl 5 (List.map Distance.cells a1), .fn (.func 110) [] [.ptr 0 0]] [.cells 95 [.fn (.func 89) [] [.ptr 1 0, .ptr 2 0, .ptr 3 0]], .cells 3 [.int .i64 a2], .cells 141 [.fn (.func 85) [] [.ptr 1 0, .ptr 2 0]], .cells 144 [.fn (.func 88) [] [.ptr 1 0]]] (fun a H => a = .int .i64 r ∧ H = [.cells 95 [.fn (.func 89) [] [.ptr 1 0, .ptr 2 0, .ptr 3 0]], .cells 3 [.int .i64 a2], .cells 141 [.fn (.func 85) [] [.ptr 1 0, .ptr 2 0]], .cells 144 [.fn (.func 88) [] [.ptr 1 0]]]) := by
  refine C.of_body Tryz.func160 rfl rfl rfl ?_
  refine TC.seq ?_
  refine TC.region ?_
  refine vV (x := (.int .i64 0)) (OpV.assign rfl rfl) ?_
  refine WO.nil ?_
  refine seqN ?_
  refine TC.seq ?_
  refine TC.seq ?_
  refine TC.region ?_
  refine vV (x := (.rsl 5 (List.map Distance.cells a1))) (OpV.move rfl rfl) ?_
  refine vV (x := (.int .i64 (a1.length : Int))) (OpV.lenM Tryz.runUnderlying24) ?_
  refine vV (x := (.int .i64 0)) (OpV.move rfl rfl) ?_
  refine WO.nil ?_
  refine seqN ?_
  obtain ⟨b10, h11, h⟩ := bnd h
  refine TC.cutE (b := b10) (fun sb10 => []) (fun sb10 => [.cells 95 [.fn (.func 89) [] [.ptr 1 0, .ptr 2 0, .ptr 3 0]], .cells 3 [.int .i64 a2], .cells 141 [.fn (.func 85) [] [.ptr 1 0, .ptr 2 0]], .cells 144 [.fn (.func 88) [] [.ptr 1 0]]]) ?_ (fun sb10 env H hbe hle => ?_)
  ·
    refine TC.block ?_
    refine TC.loop (E := fun s13 => [(0, .rsl 5 (List.map Distance.cells a1)), (1, .fn (.func 110) [] [.ptr 0 0]), (7, .int .i64 (a1.length : Int)), (8, .int .i64 s13)]) (Hp := fun s13 => [.cells 95 [.fn (.func 89) [] [.ptr 1 0, .ptr 2 0, .ptr 3 0]], .cells 3 [.int .i64 a2], .cells 141 [.fn (.func 85) [] [.ptr 1 0, .ptr 2 0]], .cells 144 [.fn (.func 88) [] [.ptr 1 0]]]) h11 ?_ ?_
    ·
      exact Le.ren [0, 1, 2, 3] rfl rfl (by decide) ⟨rfl, rfl, rfl, rfl, trivial⟩
    intro s13 d14 h15 hb12
    refine TC.seq ?_
    refine TC.region ?_
    refine vV (x := (.bool (decide (s13 < (a1.length : Int))))) (OpV.lss rfl rfl rfl) ?_
    refine WO.nil ?_
    refine seqN ?_
    refine TC.seq ?_
    refine TC.condS rfl (fun hc16 => ?_) (fun hc16 => ?_)
    · have h15 := ifF hc16 h15
      refine TC.exit ?_
      refine seqX ?_
      refine loopX h15 ?_
      obtain rfl := hb12 _ (Option.some.inj h15).symm
      refine bloE ?_
      refine cutEN rfl ?_
      exact Le.ren [0, 1, 2, 3] rfl rfl (by decide) trivial
    have h15 := ifT hc16 h15
    refine TC.skip ?_
    refine seqN ?_
    refine TC.seq ?_
    refine TC.block ?_
    refine TC.seq ?_
    refine TC.region ?_
    refine vV (x := (.int .i64 s13)) (OpV.move rfl rfl) ?_
    refine vV (x := (.int .i64 s13)) (OpV.assign rfl rfl) ?_
    refine WO.nil ?_
    refine seqN ?_
    refine TC.seq ?_
    refine TC.region ?_
    refine vV (x := (.fn (.func 110) [] [.ptr 0 0])) (OpV.move rfl rfl) ?_
    refine vV (x := (.rsl 5 (List.map Distance.cells a1))) (OpV.move rfl rfl) ?_
    refine vV (x := (.int .i64 s13)) (OpV.move rfl rfl) ?_
    obtain ⟨x17, hx17, h15⟩ := bnd h15
    refine vV (x := (.rp [.str x17.Name, .rsl 3 (List.map Part.enc x17.Route), .int .i64 x17.Timing, .rsl 3 (List.map Cutoff.cells x17.Cutoffs), .int .i64 x17.Extra])) (OpV.ixM (e := Distance.cells) (v := x17) hx17 Tryz.runUnderlying24 Tryz.sizeOf62) ?_
    refine vV (x := (.agg (Distance.cells x17))) (OpV.loadA rfl Tryz.isAgg62 Tryz.sizeOf62 rfl Pts.rp rfl rfl) ?_
    obtain ⟨r18, hr18, h15⟩ := bnd h15
    refine WO.callD [0, 1, 2, 3] (OpC.clo Tryz.call110 rfl rfl rfl rfl) (ok_typing_all_6 _ _ _ _ hr18) ?_
    rintro _ _ ⟨rfl, rfl⟩
    refine WO.atV (x := (.bool r18)) (H := [.cells 95 [.fn (.func 89) [] [.ptr 1 0, .ptr 2 0, .ptr 3 0]], .cells 3 [.int .i64 a2], .cells 141 [.fn (.func 85) [] [.ptr 1 0, .ptr 2 0]], .cells 144 [.fn (.func 88) [] [.ptr 1 0]]]) rfl rfl ?_
    refine WO.nil ?_
    refine seqN ?_
    refine TC.cond rfl (fun hc19 => ?_) (fun hc19 => ?_)
    · have h15 := ifT hc19 h15
      refine TC.seq ?_
      refine TC.region ?_
      refine vV (x := (.int .i64 s13)) (OpV.move rfl rfl) ?_
      refine vV (x := (.int .i64 s13)) (OpV.assign rfl rfl) ?_
      refine WO.nil ?_
      refine seqN ?_
      refine TC.ret ?_
      refine bloR ?_
      refine seqR ?_
      refine loopR h15 ?_
      obtain rfl := hb12 _ (Option.some.inj h15).symm
      refine bloR ?_
      refine cutER ?_
      refine seqR ?_
      obtain rfl := Option.some.inj h
      refine ⟨[(4, .int .i64 s13)], [.cells 95 [.fn (.func 89) [] [.ptr 1 0, .ptr 2 0, .ptr 3 0]], .cells 3 [.int .i64 a2], .cells 141 [.fn (.func 85) [] [.ptr 1 0, .ptr 2 0]], .cells 144 [.fn (.func 88) [] [.ptr 1 0]]], _, ?_, ResOK.one rfl rfl, rfl, rfl⟩
      exact Le.ren [0, 1, 2, 3] rfl rfl (by decide) ⟨rfl, trivial⟩
    have h15 := ifF hc19 h15
    refine TC.skip ?_
    refine bloN ?_
    refine seqN ?_
    refine TC.region ?_
    refine vV (x := (.int .i64 (IntKind.i64.wrap (s13 + 1)))) (OpV.add rfl rfl rfl) ?_
    refine vV (x := (.int .i64 (IntKind.i64.wrap (s13 + 1)))) (OpV.move rfl rfl) ?_
    refine WO.nil ?_
    refine loopN h15 ?_
    exact Le.ren [0, 1, 2, 3] rfl rfl (by decide) ⟨rfl, rfl, rfl, rfl, trivial⟩
  subst hbe
  refine seqN (TC.le hle ?_)
  refine TC.seq ?_
  refine TC.region ?_
  refine vV (x := (.int .i64 (-1))) (OpV.assign rfl rfl) ?_
  refine WO.nil ?_
  refine seqN ?_
  refine TC.ret ?_
  obtain rfl := Option.some.inj h
  refine ⟨[(4, .int .i64 (-1))], [.cells 95 [.fn (.func 89) [] [.ptr 1 0, .ptr 2 0, .ptr 3 0]], .cells 3 [.int .i64 a2], .cells 141 [.fn (.func 85) [] [.ptr 1 0, .ptr 2 0]], .cells 144 [.fn (.func 88) [] [.ptr 1 0]]], _, ?_, ResOK.one rfl rfl, rfl, rfl⟩
  exact Le.ren [0, 1, 2, 3] rfl rfl (by decide) ⟨rfl, trivial⟩

/- slices.ContainsFunc[[]stopwatch/api.Distance,stopwatch/api.Distance] -/
def F_slices_ContainsFunc_4 (n : Nat) (a1 : List Distance) (a2 : Int) : Option Bool :=
  (F_slices_IndexFunc_4 n a1 a2).bind fun r1 => some (decide (0 ≤ r1))
theorem ok_slices_ContainsFunc_4 (n : Nat) (a1 : List Distance) (a2 : Int) (r : Bool) (h : F_slices_ContainsFunc_4 n a1 a2 = some r) :
    C Tryz.prog 109 [.rsl 5 (List.map Distance.cells a1), .fn (.func 110) [] [.ptr 0 0]] [.cells 95 [.fn (.func 89) [] [.ptr 1 0, .ptr 2 0, .ptr 3 0]], .cells 3 [.int .i64 a2], .cells 141 [.fn (.func 85) [] [.ptr 1 0, .ptr 2 0]], .cells 144 [.fn (.func 88) [] [.ptr 1 0]]] (fun a H => a = .bool r ∧ H = [.cells 95 [.fn (.func 89) [] [.ptr 1 0, .ptr 2 0, .ptr 3 0]], .cells 3 [.int .i64 a2], .cells 141 [.fn (.func 85) [] [.ptr 1 0, .ptr 2 0]], .cells 144 [.fn (.func 88) [] [.ptr 1 0]]]) := by
  refine C.of_body Tryz.func109 rfl rfl rfl ?_
  refine TC.seq ?_
  refine TC.region ?_
  refine vV (x := (.bool false)) (OpV.assign rfl rfl) ?_
  refine WO.nil ?_
  refine seqN ?_
  refine TC.seq ?_
  refine TC.region ?_
  refine vV (x := (.rsl 5 (List.map Distance.cells a1))) (OpV.move rfl rfl) ?_
  refine vV (x := (.fn (.func 110) [] [.ptr 0 0])) (OpV.move rfl rfl) ?_
  obtain ⟨r1, hr1, h⟩ := bnd h
  refine WO.callD [0, 1, 2, 3] (OpC.fn Tryz.call160 rfl rfl rfl) (ok_slices_IndexFunc_4 _ _ _ _ hr1) ?_
  rintro _ _ ⟨rfl, rfl⟩
  refine WO.atV (x := (.int .i64 r1)) (H := [.cells 95 [.fn (.func 89) [] [.ptr 1 0, .ptr 2 0, .ptr 3 0]], .cells 3 [.int .i64 a2], .cells 141 [.fn (.func 85) [] [.ptr 1 0, .ptr 2 0]], .cells 144 [.fn (.func 88) [] [.ptr 1 0]]]) rfl rfl ?_
  refine vV (x := (.bool (decide (0 ≤ r1)))) (OpV.geq rfl rfl rfl) ?_
  refine vV (x := (.bool (decide (0 ≤ r1)))) (OpV.assign rfl rfl) ?_
  refine WO.nil ?_
  refine seqN ?_
  refine TC.ret ?_
  obtain rfl := Option.some.inj h
  refine ⟨[(4, .bool (decide (0 ≤ r1)))], [.cells 95 [.fn (.func 89) [] [.ptr 1 0, .ptr 2 0, .ptr 3 0]], .cells 3 [.int .i64 a2], .cells 141 [.fn (.func 85) [] [.ptr 1 0, .ptr 2 0]], .cells 144 [.fn (.func 88) [] [.ptr 1 0]]], _, ?_, ResOK.one rfl rfl, rfl, rfl⟩
  exact Le.ren [0, 1, 2, 3] rfl rfl (by decide) ⟨rfl, trivial⟩

/- stopwatch/typing.all[stopwatch/api.Distance] -/
def F_typing_all_5 (n : Nat) (a1 : List Distance) (a2 : Int) : Option Bool :=
  (F_slices_ContainsFunc_4 n a1 a2).bind fun r1 => some (!r1)
theorem ok_typing_all_5 (n : Nat) (a1 : List Distance) (a2 : Int) (r : Bool) (h : F_typing_all_5 n a1 a2 = some r) :
    C Tryz.prog 47 [.rsl 5 (List.map Distance.cells a1), .fn (.func 89) [] [.ptr 0 0, .ptr 1 0, .ptr 2 0]] [.cells 3 [.int .i64 a2], .cells 141 [.fn (.func 85) [] [.ptr 0 0, .ptr 1 0]], .cells 144 [.fn (.func 88) [] [.ptr 0 0]]] (fun a H => a = .bool r ∧ H = [.cells 3 [.int .i64 a2], .cells 141 [.fn (.func 85) [] [.ptr 0 0, .ptr 1 0]], .cells 144 [.fn (.func 88) [] [.ptr 0 0]]]) := by
  refine C.of_body Tryz.func47 rfl rfl rfl ?_
  refine TC.seq ?_
  refine TC.region ?_
  refine vH (OpH.box rfl rfl rfl rfl rfl) ?_
  refine WO.atV (x := (.ptr 3 0)) (H := [.cells 3 [.int .i64 a2], .cells 141 [.fn (.func 85) [] [.ptr 0 0, .ptr 1 0]], .cells 144 [.fn (.func 88) [] [.ptr 0 0]], .cells 95 [.fn (.func 89) [] [.ptr 0 0, .ptr 1 0, .ptr 2 0]]]) rfl rfl ?_
  refine vV (x := (.bool false)) (OpV.assign rfl rfl) ?_
  refine WO.nil ?_
  refine seqN ?_
  refine TC.seq ?_
  refine TC.region ?_
  refine vV (x := (.rsl 5 (List.map Distance.cells a1))) (OpV.move rfl rfl) ?_
  refine vV (x := (.fn (.func 110) [] [.ptr 3 0])) (OpV.makeFunc (first := []) (cap := [.tmp 3]) rfl rfl rfl) ?_
  obtain ⟨r1, hr1, h⟩ := bnd h
  refine WO.callD [3, 0, 1, 2] (OpC.fn Tryz.call109 rfl rfl rfl) (ok_slices_ContainsFunc_4 _ _ _ _ hr1) ?_
  rintro _ _ ⟨rfl, rfl⟩
  refine WO.atV (x := (.bool r1)) (H := [.cells 3 [.int .i64 a2], .cells 141 [.fn (.func 85) [] [.ptr 0 0, .ptr 1 0]], .cells 144 [.fn (.func 88) [] [.ptr 0 0]], .cells 95 [.fn (.func 89) [] [.ptr 0 0, .ptr 1 0, .ptr 2 0]]]) rfl rfl ?_
  refine vV (x := (.bool (!r1))) (OpV.not rfl rfl) ?_
  refine vV (x := (.bool (!r1))) (OpV.assign rfl rfl) ?_
  refine WO.nil ?_
  refine seqN ?_
  refine TC.ret ?_
  obtain rfl := Option.some.inj h
  refine ⟨[(4, .bool (!r1))], [.cells 3 [.int .i64 a2], .cells 141 [.fn (.func 85) [] [.ptr 0 0, .ptr 1 0]], .cells 144 [.fn (.func 88) [] [.ptr 0 0]]], _, ?_, ResOK.one rfl rfl, rfl, rfl⟩
  exact Le.ren [0, 1, 2] rfl rfl (by decide) ⟨rfl, trivial⟩

/- stopwatch/typing.numbers$9 -/
def F_typing_numbers_9 (n : Nat) (a1 : Wave) : Option Bool :=
  (F_typing_within n 0 1099511627776 [a1.Gun]).bind fun r1 => some r1
theorem ok_typing_numbers_9 (n : Nat) (a1 : Wave) (r : Bool) (h : F_typing_numbers_9 n a1 = some r) :
    C Tryz.prog 100 [.agg (Wave.cells a1)] [] (fun a H => a = .bool r ∧ H = []) := by
  refine C.of_body Tryz.func100 rfl rfl rfl ?_
  refine TC.seq ?_
  refine TC.region ?_
  refine vH (OpH.box rfl rfl rfl rfl rfl) ?_
  refine WO.atV (x := (.ptr 0 0)) (H := [.cells 109 (Wave.cells a1)]) rfl rfl ?_
  refine vV (x := (.bool false)) (OpV.assign rfl rfl) ?_
  refine WO.nil ?_
  refine seqN ?_
  refine TC.seq ?_
  refine TC.region ?_
  refine vV (x := (.ptr 0 1)) (OpV.fieldP fa_109_1 rfl rfl) ?_
  refine vV (x := (.int .i64 a1.Gun)) (OpV.load rfl Tryz.isAgg3 rfl (Pts.cells rfl rfl)) ?_
  refine vH (OpH.lit (xs := [.tmp 4]) (es := List.map (encI .i64) [a1.Gun]) el_39 rfl rfl rfl rfl rfl ⟨rfl, trivial⟩ rfl rfl) ?_
  refine WO.atV (x := (.osl 1 0 ([a1.Gun].length) 1)) (H := [.cells 109 (Wave.cells a1), .row 3 1 (List.map (encI .i64) [a1.Gun])]) rfl rfl ?_
  obtain ⟨r1, hr1, h⟩ := bnd h
  refine WO.callB (OpC.fn Tryz.call86 rfl rfl rfl) (LookL.cons rfl (.inl ⟨rfl, rfl⟩) (LookL.cons rfl (.inl ⟨rfl, rfl⟩) (LookL.cons rfl (.inr ⟨_, _, _, _, _, rfl, rfl, List.length_map .., rfl⟩) LookL.nil))) (ok_typing_within _ _ _ _ _ hr1) (by rintro _ _ ⟨rfl, rfl⟩; rfl) ?_
  rintro _ _ ⟨rfl, rfl⟩
  refine WO.atV (x := (.bool r1)) (H := [.cells 109 (Wave.cells a1), .row 3 1 (List.map (encI .i64) [a1.Gun])]) rfl rfl ?_
  refine vV (x := (.bool r1)) (OpV.assign rfl rfl) ?_
  refine WO.nil ?_
  refine seqN ?_
  refine TC.ret ?_
  obtain rfl := Option.some.inj h
  refine ⟨[(2, .bool r1)], [], _, ?_, ResOK.one rfl rfl, rfl, rfl⟩
  exact Le.ren [] rfl rfl (by decide) ⟨rfl, trivial⟩

/- stopwatch/typing.all[stopwatch/api.Wave]$1 -/
def F_typing_all_12 (n : Nat) (a1 : Wave) : Option Bool :=
  (F_typing_numbers_9 n a1).bind fun r1 => some (!r1)
theorem ok_typing_all_12 (n : Nat) (a1 : Wave) (r : Bool) (h : F_typing_all_12 n a1 = some r) :
    C Tryz.prog 150 [.agg (Wave.cells a1), .ptr 0 0] [.cells 155 [.fn (.func 100) [] []]] (fun a H => a = .bool r ∧ H = [.cells 155 [.fn (.func 100) [] []]]) := by
  refine C.of_body Tryz.func150 rfl rfl rfl ?_
  refine TC.seq ?_
  refine TC.region ?_
  refine vH (OpH.box rfl rfl rfl rfl rfl) ?_
  refine WO.atV (x := (.ptr 1 0)) (H := [.cells 155 [.fn (.func 100) [] []], .cells 109 (Wave.cells a1)]) rfl rfl ?_
  refine vV (x := (.bool false)) (OpV.assign rfl rfl) ?_
  refine WO.nil ?_
  refine seqN ?_
  refine TC.seq ?_
  refine TC.region ?_
  refine vV (x := (.fn (.func 100) [] [])) (OpV.load rfl Tryz.isAgg155 rfl (Pts.cells rfl rfl)) ?_
  refine vV (x := (.agg (Wave.cells a1))) (OpV.loadA rfl Tryz.isAgg109 Tryz.sizeOf109 rfl (Pts.cells rfl rfl) rfl rfl) ?_
  obtain ⟨r1, hr1, h⟩ := bnd h
  refine WO.callD [] (OpC.clo Tryz.call100 rfl rfl rfl rfl) (ok_typing_numbers_9 _ _ _ hr1) ?_
  rintro _ _ ⟨rfl, rfl⟩
  refine WO.atV (x := (.bool r1)) (H := [.cells 155 [.fn (.func 100) [] []], .cells 109 (Wave.cells a1)]) rfl rfl ?_
  refine vV (x := (.bool (!r1))) (OpV.not rfl rfl) ?_
  refine vV (x := (.bool (!r1))) (OpV.assign rfl rfl) ?_
  refine WO.nil ?_
  refine seqN ?_
  refine TC.ret ?_
  obtain rfl := Option.some.inj h
  refine ⟨[(3, .bool (!r1))], [.cells 155 [.fn (.func 100) [] []]], _, ?_, ResOK.one rfl rfl, rfl, rfl⟩
  exact Le.ren [0] rfl rfl (by decide) ⟨rfl, trivial⟩

/- slices.IndexFunc[[]stopwatch/api.Wave,stopwatch/api.Wave] -/
def F_slices_IndexFunc_7_L1 (n : Nat) (a1 : List Wave) (s13 : Int) : Option (Ctl Int (Ctl Unit Int)) :=
  (bif decide (s13 < (a1.length : Int)) then (idx a1 s13).bind fun x17 => (F_typing_all_12 n x17).bind fun r18 => (bif r18 then some (.done (.done s13)) else some (.cont (IntKind.i64.wrap (s13 + 1)))) else some (.done (.cont ())))
def F_slices_IndexFunc_7 (n : Nat) (a1 : List Wave) : Option Int :=
  (iter (F_slices_IndexFunc_7_L1 n a1) n 0 : Option (Ctl Unit Int)).bind fun b10 => match b10 with | .cont sb10 => (some (-1)) | .done sb10 => some sb10
theorem ok_slices_IndexFunc_7 (n : Nat) (a1 : List Wave) (r : Int) (h : F_slices_IndexFunc_7 n a1 = some r) :
    C Tryz.prog 177 [.rsl 2 (List.map Wave.cells a1), .fn (.func 150) [] [.ptr 0 0]] [.cells 155 [.fn (.func 100) [] []]] (fun a H => a = .int .i64 r ∧ H = [.cells 155 [.fn (.func 100) [] []]]) := by
  refine C.of_body Tryz.func177 rfl rfl rfl ?_
  refine TC.seq ?_
  refine TC.region ?_
  refine vV (x := (.int .i64 0)) (OpV.assign rfl rfl) ?_
  refine WO.nil ?_
  refine seqN ?_
  refine TC.seq ?_
  refine TC.seq ?_
  refine TC.region ?_
  refine vV (x := (.rsl 2 (List.map Wave.cells a1))) (OpV.move rfl rfl) ?_
  refine vV (x := (.int .i64 (a1.length : Int))) (OpV.lenM Tryz.runUnderlying25) ?_
  refine vV (x := (.int .i64 0)) (OpV.move rfl rfl) ?_
  refine WO.nil ?_
  refine seqN ?_
  obtain ⟨b10, h11, h⟩ := bnd h
  refine TC.cutE (b := b10) (fun sb10 => []) (fun sb10 => [.cells 155 [.fn (.func 100) [] []]]) ?_ (fun sb10 env H hbe hle => ?_)
  ·
    refine TC.block ?_
    refine TC.loop (E := fun s13 => [(0, .rsl 2 (List.map Wave.cells a1)), (1, .fn (.func 150) [] [.ptr 0 0]), (7, .int .i64 (a1.length : Int)), (8, .int .i64 s13)]) (Hp := fun s13 => [.cells 155 [.fn (.func 100) [] []]]) h11 ?_ ?_
    ·
      exact Le.ren [0] rfl rfl (by decide) ⟨rfl, rfl, rfl, rfl, trivial⟩
    intro s13 d14 h15 hb12
    refine TC.seq ?_
    refine TC.region ?_
    refine vV (x := (.bool (decide (s13 < (a1.length : Int))))) (OpV.lss rfl rfl rfl) ?_
    refine WO.nil ?_
    refine seqN ?_
    refine TC.seq ?_
    refine TC.condS rfl (fun hc16 => ?_) (fun hc16 => ?_)
    · have h15 := ifF hc16 h15
      refine TC.exit ?_
      refine seqX ?_
      refine loopX h15 ?_
      obtain rfl := hb12 _ (Option.some.inj h15).symm
      refine bloE ?_
      refine cutEN rfl ?_
      exact Le.ren [0] rfl rfl (by decide) trivial
    have h15 := ifT hc16 h15
    refine TC.skip ?_
    refine seqN ?_
    refine TC.seq ?_
    refine TC.block ?_
    refine TC.seq ?_
    refine TC.region ?_
    refine vV (x := (.int .i64 s13)) (OpV.move rfl rfl) ?_
    refine vV (x := (.int .i64 s13)) (OpV.assign rfl rfl) ?_
    refine WO.nil ?_
    refine seqN ?_
    refine TC.seq ?_
    refine TC.region ?_
    refine vV (x := (.fn (.func 150) [] [.ptr 0 0])) (OpV.move rfl rfl) ?_
    refine vV (x := (.rsl 2 (List.map Wave.cells a1))) (OpV.move rfl rfl) ?_
    refine vV (x := (.int .i64 s13)) (OpV.move rfl rfl) ?_
    obtain ⟨x17, hx17, h15⟩ := bnd h15
    refine vV (x := (.rp [.str x17.Name, .int .i64 x17.Gun])) (OpV.ixM (e := Wave.cells) (v := x17) hx17 Tryz.runUnderlying25 Tryz.sizeOf109) ?_
    refine vV (x := (.agg (Wave.cells x17))) (OpV.loadA rfl Tryz.isAgg109 Tryz.sizeOf109 rfl Pts.rp rfl rfl) ?_
    obtain ⟨r18, hr18, h15⟩ := bnd h15
    refine WO.callD [0] (OpC.clo Tryz.call150 rfl rfl rfl rfl) (ok_typing_all_12 _ _ _ hr18) ?_
    rintro _ _ ⟨rfl, rfl⟩
    refine WO.atV (x := (.bool r18)) (H := [.cells 155 [.fn (.func 100) [] []]]) rfl rfl ?_
    refine WO.nil ?_
    refine seqN ?_
    refine TC.cond rfl (fun hc19 => ?_) (fun hc19 => ?_)
    · have h15 := ifT hc19 h15
      refine TC.seq ?_
      refine TC.region ?_
      refine vV (x := (.int .i64 s13)) (OpV.move rfl rfl) ?_
      refine vV (x := (.int .i64 s13)) (OpV.assign rfl rfl) ?_
      refine WO.nil ?_
      refine seqN ?_
      refine TC.ret ?_
      refine bloR ?_
      refine seqR ?_
      refine loopR h15 ?_
      obtain rfl := hb12 _ (Option.some.inj h15).symm
      refine bloR ?_
      refine cutER ?_
      refine seqR ?_
      obtain rfl := Option.some.inj h
      refine ⟨[(4, .int .i64 s13)], [.cells 155 [.fn (.func 100) [] []]], _, ?_, ResOK.one rfl rfl, rfl, rfl⟩
      exact Le.ren [0] rfl rfl (by decide) ⟨rfl, trivial⟩
    have h15 := ifF hc19 h15
    refine TC.skip ?_
    refine bloN ?_
    refine seqN ?_
    refine TC.region ?_
    refine vV (x := (.int .i64 (IntKind.i64.wrap (s13 + 1)))) (OpV.add rfl rfl rfl) ?_
    refine vV (x := (.int .i64 (IntKind.i64.wrap (s13 + 1)))) (OpV.move rfl rfl) ?_
    refine WO.nil ?_
    refine loopN h15 ?_
    exact Le.ren [0] rfl rfl (by decide) ⟨rfl, rfl, rfl, rfl, trivial⟩
  subst hbe
  refine seqN (TC.le hle ?_)
  refine TC.seq ?_
  refine TC.region ?_
  refine vV (x := (.int .i64 (-1))) (OpV.assign rfl rfl) ?_
  refine WO.nil ?_
  refine seqN ?_
  refine TC.ret ?_
  obtain rfl := Option.some.inj h
  refine ⟨[(4, .int .i64 (-1))], [.cells 155 [.fn (.func 100) [] []]], _, ?_, ResOK.one rfl rfl, rfl, rfl⟩
  exact Le.ren [0] rfl rfl (by decide) ⟨rfl, trivial⟩

/- slices.ContainsFunc[[]stopwatch/api.Wave,stopwatch/api.Wave] -/
def F_slices_ContainsFunc_7 (n : Nat) (a1 : List Wave) : Option Bool :=
  (F_slices_IndexFunc_7 n a1).bind fun r1 => some (decide (0 ≤ r1))
theorem ok_slices_ContainsFunc_7 (n : Nat) (a1 : List Wave) (r : Bool) (h : F_slices_ContainsFunc_7 n a1 = some r) :
    C Tryz.prog 149 [.rsl 2 (List.map Wave.cells a1), .fn (.func 150) [] [.ptr 0 0]] [.cells 155 [.fn (.func 100) [] []]] (fun a H => a = .bool r ∧ H = [.cells 155 [.fn (.func 100) [] []]]) := by
  refine C.of_body Tryz.func149 rfl rfl rfl ?_
  refine TC.seq ?_
  refine TC.region ?_
  refine vV (x := (.bool false)) (OpV.assign rfl rfl) ?_
  refine WO.nil ?_
  refine seqN ?_
  refine TC.seq ?_
  refine TC.region ?_
  refine vV (x := (.rsl 2 (List.map Wave.cells a1))) (OpV.move rfl rfl) ?_
  refine vV (x := (.fn (.func 150) [] [.ptr 0 0])) (OpV.move rfl rfl) ?_
  obtain ⟨r1, hr1, h⟩ := bnd h
  refine WO.callD [0] (OpC.fn Tryz.call177 rfl rfl rfl) (ok_slices_IndexFunc_7 _ _ _ hr1) ?_
  rintro _ _ ⟨rfl, rfl⟩
  refine WO.atV (x := (.int .i64 r1)) (H := [.cells 155 [.fn (.func 100) [] []]]) rfl rfl ?_
  refine vV (x := (.bool (decide (0 ≤ r1)))) (OpV.geq rfl rfl rfl) ?_
  refine vV (x := (.bool (decide (0 ≤ r1)))) (OpV.assign rfl rfl) ?_
  refine WO.nil ?_
  refine seqN ?_
  refine TC.ret ?_
  obtain rfl := Option.some.inj h
  refine ⟨[(4, .bool (decide (0 ≤ r1)))], [.cells 155 [.fn (.func 100) [] []]], _, ?_, ResOK.one rfl rfl, rfl, rfl⟩
  exact Le.ren [0] rfl rfl (by decide) ⟨rfl, trivial⟩

/- stopwatch/typing.all[stopwatch/api.Wave] -/
def F_typing_all_11 (n : Nat) (a1 : List Wave) : Option Bool :=
  (F_slices_ContainsFunc_7 n a1).bind fun r1 => some (!r1)
theorem ok_typing_all_11 (n : Nat) (a1 : List Wave) (r : Bool) (h : F_typing_all_11 n a1 = some r) :
    C Tryz.prog 99 [.rsl 2 (List.map Wave.cells a1), .fn (.func 100) [] []] [] (fun a H => a = .bool r ∧ H = []) := by
  refine C.of_body Tryz.func99 rfl rfl rfl ?_
  refine TC.seq ?_
  refine TC.region ?_
  refine vH (OpH.box rfl rfl rfl rfl rfl) ?_
  refine WO.atV (x := (.ptr 0 0)) (H := [.cells 155 [.fn (.func 100) [] []]]) rfl rfl ?_
  refine vV (x := (.bool false)) (OpV.assign rfl rfl) ?_
  refine WO.nil ?_
  refine seqN ?_
  refine TC.seq ?_
  refine TC.region ?_
  refine vV (x := (.rsl 2 (List.map Wave.cells a1))) (OpV.move rfl rfl) ?_
  refine vV (x := (.fn (.func 150) [] [.ptr 0 0])) (OpV.makeFunc (first := []) (cap := [.tmp 3]) rfl rfl rfl) ?_
  obtain ⟨r1, hr1, h⟩ := bnd h
  refine WO.callD [0] (OpC.fn Tryz.call149 rfl rfl rfl) (ok_slices_ContainsFunc_7 _ _ _ hr1) ?_
  rintro _ _ ⟨rfl, rfl⟩
  refine WO.atV (x := (.bool r1)) (H := [.cells 155 [.fn (.func 100) [] []]]) rfl rfl ?_
  refine vV (x := (.bool (!r1))) (OpV.not rfl rfl) ?_
  refine vV (x := (.bool (!r1))) (OpV.assign rfl rfl) ?_
  refine WO.nil ?_
  refine seqN ?_
  refine TC.ret ?_
  obtain rfl := Option.some.inj h
  refine ⟨[(4, .bool (!r1))], [], _, ?_, ResOK.one rfl rfl, rfl, rfl⟩
  exact Le.ren [] rfl rfl (by decide) ⟨rfl, trivial⟩

/- stopwatch/typing.numbers$5 -/
def F_typing_numbers_5 (n : Nat) (a1 : Offence) : Option Bool :=
  (bif a1.Out then ((bif (a1.Time == 0) then some (a1.Laps == 0) else some false) : Option Bool).bind fun b3 => some b3 else (bif (a1.Laps != 0) then ((bif (a1.Time == 0) then (F_typing_within n 1 64 [a1.Laps]).bind fun r12 => some r12 else some false) : Option Bool).bind fun b9 => some b9 else (F_typing_within n 0 68719476736 [a1.Time]).bind fun r13 => some r13))
theorem ok_typing_numbers_5 (n : Nat) (a1 : Offence) (r : Bool) (h : F_typing_numbers_5 n a1 = some r) :
    C Tryz.prog 92 [.agg (Offence.cells a1)] [] (fun a H => a = .bool r ∧ H = []) := by
  refine C.of_body Tryz.func92 rfl rfl rfl ?_
  refine TC.seq ?_
  refine TC.region ?_
  refine vH (OpH.box rfl rfl rfl rfl rfl) ?_
  refine WO.atV (x := (.ptr 0 0)) (H := [.cells 111 (Offence.cells a1)]) rfl rfl ?_
  refine vV (x := (.bool false)) (OpV.assign rfl rfl) ?_
  refine WO.nil ?_
  refine seqN ?_
  refine TC.seq ?_
  refine TC.block ?_
  refine TC.seq ?_
  refine TC.region ?_
  refine vV (x := (.ptr 0 3)) (OpV.fieldP fa_111_3 rfl rfl) ?_
  refine vV (x := (.bool a1.Out)) (OpV.load rfl Tryz.isAgg4 rfl (Pts.cells rfl rfl)) ?_
  refine vV (x := (.bool a1.Out)) (OpV.assign rfl rfl) ?_
  refine WO.nil ?_
  refine seqN ?_
  refine TC.cond rfl (fun hc1 => ?_) (fun hc1 => ?_)
  · have h := ifT hc1 h
    refine TC.seq ?_
    obtain ⟨b3, h4, h⟩ := bnd h
    refine TC.cut ([(2, .bool b3)]) ([]) ?_ (fun env H hle => ?_)
    ·
      refine TC.region ?_
      refine vV (x := (.ptr 0 1)) (OpV.fieldP fa_111_1 rfl rfl) ?_
      refine vV (x := (.int .i64 a1.Time)) (OpV.load rfl Tryz.isAgg3 rfl (Pts.cells rfl rfl)) ?_
      refine vV (x := (.bool (a1.Time == 0))) (OpV.eql rfl rfl rfl) ?_
      refine vV (x := (.bool (a1.Time == 0))) (OpV.move rfl rfl) ?_
      rcases bTF ((a1.Time == 0)) with hg5 | hg5
      · have h4 := ifT hg5 h4
        refine vV (x := (.ptr 0 2)) (OpV.fieldP fa_111_2 rfl rfl) ?_ (gT hg5)
        refine vV (x := (.int .i64 a1.Laps)) (OpV.load rfl Tryz.isAgg3 rfl (Pts.cells rfl rfl)) ?_ (gT hg5)
        refine vV (x := (.bool (a1.Laps == 0))) (OpV.eql rfl rfl rfl) ?_ (gT hg5)
        refine vV (x := (.bool (a1.Laps == 0))) (OpV.pickT hg5) ?_
        refine vV (x := (.bool (a1.Laps == 0))) (OpV.assign rfl rfl) ?_
        refine WO.nil ?_
        obtain rfl := Option.some.inj h4
        refine cutN ?_
        exact Le.ren [] rfl rfl (by decide) ⟨rfl, trivial⟩
      · have h4 := ifF hg5 h4
        refine vS (gF hg5) ?_
        refine vS (gF hg5) ?_
        refine vS (gF hg5) ?_
        refine vV (x := (.bool false)) (OpV.pickF hg5) ?_
        refine vV (x := (.bool false)) (OpV.assign rfl rfl) ?_
        refine WO.nil ?_
        obtain rfl := Option.some.inj h4
        refine cutN ?_
        exact Le.ren [] rfl rfl (by decide) ⟨rfl, trivial⟩
    refine seqN (TC.le hle ?_)
    refine TC.ret ?_
    refine bloR ?_
    refine seqR ?_
    obtain rfl := Option.some.inj h
    refine ⟨[(2, .bool b3)], [], _, ?_, ResOK.one rfl rfl, rfl, rfl⟩
    exact Le.ren [] rfl rfl (by decide) ⟨rfl, trivial⟩
  have h := ifF hc1 h
  refine TC.seq ?_
  refine TC.region ?_
  refine vV (x := (.ptr 0 2)) (OpV.fieldP fa_111_2 rfl rfl) ?_
  refine vV (x := (.int .i64 a1.Laps)) (OpV.load rfl Tryz.isAgg3 rfl (Pts.cells rfl rfl)) ?_
  refine vV (x := (.bool (a1.Laps != 0))) (OpV.neq rfl rfl rfl) ?_
  refine vV (x := (.bool (a1.Laps != 0))) (OpV.assign rfl rfl) ?_
  refine WO.nil ?_
  refine seqN ?_
  refine TC.cond rfl (fun hc6 => ?_) (fun hc6 => ?_)
  · have h := ifT hc6 h
    refine TC.seq ?_
    obtain ⟨b9, h10, h⟩ := bnd h
    refine TC.cut ([(2, .bool b9)]) ([]) ?_ (fun env H hle => ?_)
    ·
      refine TC.region ?_
      refine vV (x := (.ptr 0 1)) (OpV.fieldP fa_111_1 rfl rfl) ?_
      refine vV (x := (.int .i64 a1.Time)) (OpV.load rfl Tryz.isAgg3 rfl (Pts.cells rfl rfl)) ?_
      refine vV (x := (.bool (a1.Time == 0))) (OpV.eql rfl rfl rfl) ?_
      refine vV (x := (.bool (a1.Time == 0))) (OpV.move rfl rfl) ?_
      rcases bTF ((a1.Time == 0)) with hg11 | hg11
      · have h10 := ifT hg11 h10
        refine vV (x := (.ptr 0 2)) (OpV.fieldP fa_111_2 rfl rfl) ?_ (gT hg11)
        refine vV (x := (.int .i64 a1.Laps)) (OpV.load rfl Tryz.isAgg3 rfl (Pts.cells rfl rfl)) ?_ (gT hg11)
        refine vH (OpH.lit (xs := [.tmp 23]) (es := List.map (encI .i64) [a1.Laps]) el_39 rfl rfl rfl rfl rfl ⟨rfl, trivial⟩ rfl rfl) ?_ (gT hg11)
        refine WO.atV (x := (.osl 1 0 ([a1.Laps].length) 1)) (H := [.cells 111 (Offence.cells a1), .row 3 1 (List.map (encI .i64) [a1.Laps])]) rfl rfl ?_
        obtain ⟨r12, hr12, h10⟩ := bnd h10
        refine WO.callB (OpC.fn Tryz.call86 rfl rfl rfl) (LookL.cons rfl (.inl ⟨rfl, rfl⟩) (LookL.cons rfl (.inl ⟨rfl, rfl⟩) (LookL.cons rfl (.inr ⟨_, _, _, _, _, rfl, rfl, List.length_map .., rfl⟩) LookL.nil))) (ok_typing_within _ _ _ _ _ hr12) (by rintro _ _ ⟨rfl, rfl⟩; rfl) ?_ (gT hg11)
        rintro _ _ ⟨rfl, rfl⟩
        refine WO.atV (x := (.bool r12)) (H := [.cells 111 (Offence.cells a1), .row 3 1 (List.map (encI .i64) [a1.Laps])]) rfl rfl ?_
        refine vV (x := (.bool r12)) (OpV.pickT hg11) ?_
        refine vV (x := (.bool r12)) (OpV.assign rfl rfl) ?_
        refine WO.nil ?_
        obtain rfl := Option.some.inj h10
        refine cutN ?_
        exact Le.ren [] rfl rfl (by decide) ⟨rfl, trivial⟩
      · have h10 := ifF hg11 h10
        refine vS (gF hg11) ?_
        refine vS (gF hg11) ?_
        refine vS (gF hg11) ?_
        refine vS (gF hg11) ?_
        refine vV (x := (.bool false)) (OpV.pickF hg11) ?_
        refine vV (x := (.bool false)) (OpV.assign rfl rfl) ?_
        refine WO.nil ?_
        obtain rfl := Option.some.inj h10
        refine cutN ?_
        exact Le.ren [] rfl rfl (by decide) ⟨rfl, trivial⟩
    refine seqN (TC.le hle ?_)
    refine TC.ret ?_
    refine bloR ?_
    refine seqR ?_
    obtain rfl := Option.some.inj h
    refine ⟨[(2, .bool b9)], [], _, ?_, ResOK.one rfl rfl, rfl, rfl⟩
    exact Le.ren [] rfl rfl (by decide) ⟨rfl, trivial⟩
  have h := ifF hc6 h
  refine TC.skip ?_
  refine bloN ?_
  refine seqN ?_
  refine TC.seq ?_
  refine TC.region ?_
  refine vV (x := (.ptr 0 1)) (OpV.fieldP fa_111_1 rfl rfl) ?_
  refine vV (x := (.int .i64 a1.Time)) (OpV.load rfl Tryz.isAgg3 rfl (Pts.cells rfl rfl)) ?_
  refine vH (OpH.lit (xs := [.tmp 28]) (es := List.map (encI .i64) [a1.Time]) el_39 rfl rfl rfl rfl rfl ⟨rfl, trivial⟩ rfl rfl) ?_
  refine WO.atV (x := (.osl 1 0 ([a1.Time].length) 1)) (H := [.cells 111 (Offence.cells a1), .row 3 1 (List.map (encI .i64) [a1.Time])]) rfl rfl ?_
  obtain ⟨r13, hr13, h⟩ := bnd h
  refine WO.callB (OpC.fn Tryz.call86 rfl rfl rfl) (LookL.cons rfl (.inl ⟨rfl, rfl⟩) (LookL.cons rfl (.inl ⟨rfl, rfl⟩) (LookL.cons rfl (.inr ⟨_, _, _, _, _, rfl, rfl, List.length_map .., rfl⟩) LookL.nil))) (ok_typing_within _ _ _ _ _ hr13) (by rintro _ _ ⟨rfl, rfl⟩; rfl) ?_
  rintro _ _ ⟨rfl, rfl⟩
  refine WO.atV (x := (.bool r13)) (H := [.cells 111 (Offence.cells a1), .row 3 1 (List.map (encI .i64) [a1.Time])]) rfl rfl ?_
  refine vV (x := (.bool r13)) (OpV.assign rfl rfl) ?_
  refine WO.nil ?_
  refine seqN ?_
  refine TC.ret ?_
  obtain rfl := Option.some.inj h
  refine ⟨[(2, .bool r13)], [], _, ?_, ResOK.one rfl rfl, rfl, rfl⟩
  exact Le.ren [] rfl rfl (by decide) ⟨rfl, trivial⟩

/- stopwatch/typing.all[stopwatch/api.Offence]$1 -/
def F_typing_all_14 (n : Nat) (a1 : Offence) : Option Bool :=
  (F_typing_numbers_5 n a1).bind fun r1 => some (!r1)
theorem ok_typing_all_14 (n : Nat) (a1 : Offence) (r : Bool) (h : F_typing_all_14 n a1 = some r) :
    C Tryz.prog 152 [.agg (Offence.cells a1), .ptr 0 0] [.cells 147 [.fn (.func 92) [] []]] (fun a H => a = .bool r ∧ H = [.cells 147 [.fn (.func 92) [] []]]) := by
  refine C.of_body Tryz.func152 rfl rfl rfl ?_
  refine TC.seq ?_
  refine TC.region ?_
  refine vH (OpH.box rfl rfl rfl rfl rfl) ?_
  refine WO.atV (x := (.ptr 1 0)) (H := [.cells 147 [.fn (.func 92) [] []], .cells 111 (Offence.cells a1)]) rfl rfl ?_
  refine vV (x := (.bool false)) (OpV.assign rfl rfl) ?_
  refine WO.nil ?_
  refine seqN ?_
  refine TC.seq ?_
  refine TC.region ?_
  refine vV (x := (.fn (.func 92) [] [])) (OpV.load rfl Tryz.isAgg147 rfl (Pts.cells rfl rfl)) ?_
  refine vV (x := (.agg (Offence.cells a1))) (OpV.loadA rfl Tryz.isAgg111 Tryz.sizeOf111 rfl (Pts.cells rfl rfl) rfl rfl) ?_
  obtain ⟨r1, hr1, h⟩ := bnd h
  refine WO.callD [] (OpC.clo Tryz.call92 rfl rfl rfl rfl) (ok_typing_numbers_5 _ _ _ hr1) ?_
  rintro _ _ ⟨rfl, rfl⟩
  refine WO.atV (x := (.bool r1)) (H := [.cells 147 [.fn (.func 92) [] []], .cells 111 (Offence.cells a1)]) rfl rfl ?_
  refine vV (x := (.bool (!r1))) (OpV.not rfl rfl) ?_
  refine vV (x := (.bool (!r1))) (OpV.assign rfl rfl) ?_
  refine WO.nil ?_
  refine seqN ?_
  refine TC.ret ?_
  obtain rfl := Option.some.inj h
  refine ⟨[(3, .bool (!r1))], [.cells 147 [.fn (.func 92) [] []]], _, ?_, ResOK.one rfl rfl, rfl, rfl⟩
  exact Le.ren [0] rfl rfl (by decide) ⟨rfl, trivial⟩

/- slices.IndexFunc[[]stopwatch/api.Offence,stopwatch/api.Offence] -/
def F_slices_IndexFunc_8_L1 (n : Nat) (a1 : List Offence) (s13 : Int) : Option (Ctl Int (Ctl Unit Int)) :=
  (bif decide (s13 < (a1.length : Int)) then (idx a1 s13).bind fun x17 => (F_typing_all_14 n x17).bind fun r18 => (bif r18 then some (.done (.done s13)) else some (.cont (IntKind.i64.wrap (s13 + 1)))) else some (.done (.cont ())))
def F_slices_IndexFunc_8 (n : Nat) (a1 : List Offence) : Option Int :=
  (iter (F_slices_IndexFunc_8_L1 n a1) n 0 : Option (Ctl Unit Int)).bind fun b10 => match b10 with | .cont sb10 => (some (-1)) | .done sb10 => some sb10
theorem ok_slices_IndexFunc_8 (n : Nat) (a1 : List Offence) (r : Int) (h : F_slices_IndexFunc_8 n a1 = some r) :
    C Tryz.prog 178 [.rsl 4 (List.map Offence.cells a1), .fn (.func 152) [] [.ptr 0 0]] [.cells 147 [.fn (.func 92) [] []]] (fun a H => a = .int .i64 r ∧ H = [.cells 147 [.fn (.func 92) [] []]]) := by
  refine C.of_body Tryz.func178 rfl rfl rfl ?_
  refine TC.seq ?_
  refine TC.region ?_
  refine vV (x := (.int .i64 0)) (OpV.assign rfl rfl) ?_
  refine WO.nil ?_
  refine seqN ?_
  refine TC.seq ?_
  refine TC.seq ?_
  refine TC.region ?_
  refine vV (x := (.rsl 4 (List.map Offence.cells a1))) (OpV.move rfl rfl) ?_
  refine vV (x := (.int .i64 (a1.length : Int))) (OpV.lenM Tryz.runUnderlying26) ?_
  refine vV (x := (.int .i64 0)) (OpV.move rfl rfl) ?_
  refine WO.nil ?_
  refine seqN ?_
  obtain ⟨b10, h11, h⟩ := bnd h
  refine TC.cutE (b := b10) (fun sb10 => []) (fun sb10 => [.cells 147 [.fn (.func 92) [] []]]) ?_ (fun sb10 env H hbe hle => ?_)
  ·
    refine TC.block ?_
    refine TC.loop (E := fun s13 => [(0, .rsl 4 (List.map Offence.cells a1)), (1, .fn (.func 152) [] [.ptr 0 0]), (7, .int .i64 (a1.length : Int)), (8, .int .i64 s13)]) (Hp := fun s13 => [.cells 147 [.fn (.func 92) [] []]]) h11 ?_ ?_
    ·
      exact Le.ren [0] rfl rfl (by decide) ⟨rfl, rfl, rfl, rfl, trivial⟩
    intro s13 d14 h15 hb12
    refine TC.seq ?_
    refine TC.region ?_
    refine vV (x := (.bool (decide (s13 < (a1.length : Int))))) (OpV.lss rfl rfl rfl) ?_
    refine WO.nil ?_
    refine seqN ?_
    refine TC.seq ?_
    refine TC.condS rfl (fun hc16 => ?_) (fun hc16 => ?_)
    · have h15 := ifF hc16 h15
      refine TC.exit ?_
      refine seqX ?_
      refine loopX h15 ?_
      obtain rfl := hb12 _ (Option.some.inj h15).symm
      refine bloE ?_
      refine cutEN rfl ?_
      exact Le.ren [0] rfl rfl (by decide) trivial
    have h15 := ifT hc16 h15
    refine TC.skip ?_
    refine seqN ?_
    refine TC.seq ?_
    refine TC.block ?_
    refine TC.seq ?_
    refine TC.region ?_
    refine vV (x := (.int .i64 s13)) (OpV.move rfl rfl) ?_
    refine vV (x := (.int .i64 s13)) (OpV.assign rfl rfl) ?_
    refine WO.nil ?_
    refine seqN ?_
    refine TC.seq ?_
    refine TC.region ?_
    refine vV (x := (.fn (.func 152) [] [.ptr 0 0])) (OpV.move rfl rfl) ?_
    refine vV (x := (.rsl 4 (List.map Offence.cells a1))) (OpV.move rfl rfl) ?_
    refine vV (x := (.int .i64 s13)) (OpV.move rfl rfl) ?_
    obtain ⟨x17, hx17, h15⟩ := bnd h15
    refine vV (x := (.rp [.str x17.Name, .int .i64 x17.Time, .int .i64 x17.Laps, .bool x17.Out])) (OpV.ixM (e := Offence.cells) (v := x17) hx17 Tryz.runUnderlying26 Tryz.sizeOf111) ?_
    refine vV (x := (.agg (Offence.cells x17))) (OpV.loadA rfl Tryz.isAgg111 Tryz.sizeOf111 rfl Pts.rp rfl rfl) ?_
    obtain ⟨r18, hr18, h15⟩ := bnd h15
    refine WO.callD [0] (OpC.clo Tryz.call152 rfl rfl rfl rfl) (ok_typing_all_14 _ _ _ hr18) ?_
    rintro _ _ ⟨rfl, rfl⟩
    refine WO.atV (x := (.bool r18)) (H := [.cells 147 [.fn (.func 92) [] []]]) rfl rfl ?_
    refine WO.nil ?_
    refine seqN ?_
    refine TC.cond rfl (fun hc19 => ?_) (fun hc19 => ?_)
    · have h15 := ifT hc19 h15
      refine TC.seq ?_
      refine TC.region ?_
      refine vV (x := (.int .i64 s13)) (OpV.move rfl rfl) ?_
      refine vV (x := (.int .i64 s13)) (OpV.assign rfl rfl) ?_
      refine WO.nil ?_
      refine seqN ?_
      refine TC.ret ?_
      refine bloR ?_
      refine seqR ?_
      refine loopR h15 ?_
      obtain rfl := hb12 _ (Option.some.inj h15).symm
      refine bloR ?_
      refine cutER ?_
      refine seqR ?_
      obtain rfl := Option.some.inj h
      refine ⟨[(4, .int .i64 s13)], [.cells 147 [.fn (.func 92) [] []]], _, ?_, ResOK.one rfl rfl, rfl, rfl⟩
      exact Le.ren [0] rfl rfl (by decide) ⟨rfl, trivial⟩
    have h15 := ifF hc19 h15
    refine TC.skip ?_
    refine bloN ?_
    refine seqN ?_
    refine TC.region ?_
    refine vV (x := (.int .i64 (IntKind.i64.wrap (s13 + 1)))) (OpV.add rfl rfl rfl) ?_
    refine vV (x := (.int .i64 (IntKind.i64.wrap (s13 + 1)))) (OpV.move rfl rfl) ?_
    refine WO.nil ?_
    refine loopN h15 ?_
    exact Le.ren [0] rfl rfl (by decide) ⟨rfl, rfl, rfl, rfl, trivial⟩
  subst hbe
  refine seqN (TC.le hle ?_)
  refine TC.seq ?_
  refine TC.region ?_
  refine vV (x := (.int .i64 (-1))) (OpV.assign rfl rfl) ?_
  refine WO.nil ?_
  refine seqN ?_
  refine TC.ret ?_
  obtain rfl := Option.some.inj h
  refine ⟨[(4, .int .i64 (-1))], [.cells 147 [.fn (.func 92) [] []]], _, ?_, ResOK.one rfl rfl, rfl, rfl⟩
  exact Le.ren [0] rfl rfl (by decide) ⟨rfl, trivial⟩

/- slices.ContainsFunc[[]stopwatch/api.Offence,stopwatch/api.Offence] -/
def F_slices_ContainsFunc_8 (n : Nat) (a1 : List Offence) : Option Bool :=
  (F_slices_IndexFunc_8 n a1).bind fun r1 => some (decide (0 ≤ r1))
theorem ok_slices_ContainsFunc_8 (n : Nat) (a1 : List Offence) (r : Bool) (h : F_slices_ContainsFunc_8 n a1 = some r) :
    C Tryz.prog 151 [.rsl 4 (List.map Offence.cells a1), .fn (.func 152) [] [.ptr 0 0]] [.cells 147 [.fn (.func 92) [] []]] (fun a H => a = .bool r ∧ H = [.cells 147 [.fn (.func 92) [] []]]) := by
  refine C.of_body Tryz.func151 rfl rfl rfl ?_
  refine TC.seq ?_
  refine TC.region ?_
  refine vV (x := (.bool false)) (OpV.assign rfl rfl) ?_
  refine WO.nil ?_
  refine seqN ?_
  refine TC.seq ?_
  refine TC.region ?_
  refine vV (x := (.rsl 4 (List.map Offence.cells a1))) (OpV.move rfl rfl) ?_
  refine vV (x := (.fn (.func 152) [] [.ptr 0 0])) (OpV.move rfl rfl) ?_
  obtain ⟨r1, hr1, h⟩ := bnd h
  refine WO.callD [0] (OpC.fn Tryz.call178 rfl rfl rfl) (ok_slices_IndexFunc_8 _ _ _ hr1) ?_
  rintro _ _ ⟨rfl, rfl⟩
  refine WO.atV (x := (.int .i64 r1)) (H := [.cells 147 [.fn (.func 92) [] []]]) rfl rfl ?_
  refine vV (x := (.bool (decide (0 ≤ r1)))) (OpV.geq rfl rfl rfl) ?_
  refine vV (x := (.bool (decide (0 ≤ r1)))) (OpV.assign rfl rfl) ?_
  refine WO.nil ?_
  refine seqN ?_
  refine TC.ret ?_
  obtain rfl := Option.some.inj h
  refine ⟨[(4, .bool (decide (0 ≤ r1)))], [.cells 147 [.fn (.func 92) [] []]], _, ?_, ResOK.one rfl rfl, rfl, rfl⟩
  exact Le.ren [0] rfl rfl (by decide) ⟨rfl, trivial⟩

/- stopwatch/typing.all[stopwatch/api.Offence] -/
def F_typing_all_13 (n : Nat) (a1 : List Offence) : Option Bool :=
  (F_slices_ContainsFunc_8 n a1).bind fun r1 => some (!r1)
theorem ok_typing_all_13 (n : Nat) (a1 : List Offence) (r : Bool) (h : F_typing_all_13 n a1 = some r) :
    C Tryz.prog 101 [.rsl 4 (List.map Offence.cells a1), .fn (.func 92) [] []] [] (fun a H => a = .bool r ∧ H = []) := by
  refine C.of_body Tryz.func101 rfl rfl rfl ?_
  refine TC.seq ?_
  refine TC.region ?_
  refine vH (OpH.box rfl rfl rfl rfl rfl) ?_
  refine WO.atV (x := (.ptr 0 0)) (H := [.cells 147 [.fn (.func 92) [] []]]) rfl rfl ?_
  refine vV (x := (.bool false)) (OpV.assign rfl rfl) ?_
  refine WO.nil ?_
  refine seqN ?_
  refine TC.seq ?_
  refine TC.region ?_
  refine vV (x := (.rsl 4 (List.map Offence.cells a1))) (OpV.move rfl rfl) ?_
  refine vV (x := (.fn (.func 152) [] [.ptr 0 0])) (OpV.makeFunc (first := []) (cap := [.tmp 3]) rfl rfl rfl) ?_
  obtain ⟨r1, hr1, h⟩ := bnd h
  refine WO.callD [0] (OpC.fn Tryz.call151 rfl rfl rfl) (ok_slices_ContainsFunc_8 _ _ _ hr1) ?_
  rintro _ _ ⟨rfl, rfl⟩
  refine WO.atV (x := (.bool r1)) (H := [.cells 147 [.fn (.func 92) [] []]]) rfl rfl ?_
  refine vV (x := (.bool (!r1))) (OpV.not rfl rfl) ?_
  refine vV (x := (.bool (!r1))) (OpV.assign rfl rfl) ?_
  refine WO.nil ?_
  refine seqN ?_
  refine TC.ret ?_
  obtain rfl := Option.some.inj h
  refine ⟨[(4, .bool (!r1))], [], _, ?_, ResOK.one rfl rfl, rfl, rfl⟩
  exact Le.ren [] rfl rfl (by decide) ⟨rfl, trivial⟩

/- stopwatch/typing.numbers$10 -/
def F_typing_numbers_10 (n : Nat) (a1 : Category) : Option Bool :=
  ((F_typing_within n 0 120 [a1.From, a1.To]).bind fun r5 => (bif r5 then some (decide (a1.From ≤ a1.To)) else some false) : Option Bool).bind fun b3 => some b3
theorem ok_typing_numbers_10 (n : Nat) (a1 : Category) (r : Bool) (h : F_typing_numbers_10 n a1 = some r) :
    C Tryz.prog 103 [.agg (Category.cells a1)] [] (fun a H => a = .bool r ∧ H = []) := by
  refine C.of_body Tryz.func103 rfl rfl rfl ?_
  refine TC.seq ?_
  refine TC.region ?_
  refine vH (OpH.box rfl rfl rfl rfl rfl) ?_
  refine WO.atV (x := (.ptr 0 0)) (H := [.cells 52 (Category.cells a1)]) rfl rfl ?_
  refine vV (x := (.bool false)) (OpV.assign rfl rfl) ?_
  refine WO.nil ?_
  refine seqN ?_
  refine TC.seq ?_
  obtain ⟨b3, h4, h⟩ := bnd h
  refine TC.cut ([(2, .bool b3)]) ([]) ?_ (fun env H hle => ?_)
  ·
    refine TC.region ?_
    refine vV (x := (.ptr 0 1)) (OpV.fieldP fa_52_1 rfl rfl) ?_
    refine vV (x := (.int .i64 a1.From)) (OpV.load rfl Tryz.isAgg3 rfl (Pts.cells rfl rfl)) ?_
    refine vV (x := (.ptr 0 2)) (OpV.fieldP fa_52_2 rfl rfl) ?_
    refine vV (x := (.int .i64 a1.To)) (OpV.load rfl Tryz.isAgg3 rfl (Pts.cells rfl rfl)) ?_
    refine vH (OpH.lit (xs := [.tmp 4, .tmp 6]) (es := List.map (encI .i64) [a1.From, a1.To]) el_39 rfl rfl rfl rfl rfl ⟨rfl, rfl, trivial⟩ rfl rfl) ?_
    refine WO.atV (x := (.osl 1 0 ([a1.From, a1.To].length) 1)) (H := [.cells 52 (Category.cells a1), .row 3 1 (List.map (encI .i64) [a1.From, a1.To])]) rfl rfl ?_
    obtain ⟨r5, hr5, h4⟩ := bnd h4
    refine WO.callB (OpC.fn Tryz.call86 rfl rfl rfl) (LookL.cons rfl (.inl ⟨rfl, rfl⟩) (LookL.cons rfl (.inl ⟨rfl, rfl⟩) (LookL.cons rfl (.inr ⟨_, _, _, _, _, rfl, rfl, List.length_map .., rfl⟩) LookL.nil))) (ok_typing_within _ _ _ _ _ hr5) (by rintro _ _ ⟨rfl, rfl⟩; rfl) ?_
    rintro _ _ ⟨rfl, rfl⟩
    refine WO.atV (x := (.bool r5)) (H := [.cells 52 (Category.cells a1), .row 3 1 (List.map (encI .i64) [a1.From, a1.To])]) rfl rfl ?_
    refine vV (x := (.bool r5)) (OpV.move rfl rfl) ?_
    rcases bTF (r5) with hg6 | hg6
    · have h4 := ifT hg6 h4
      refine vV (x := (.ptr 0 1)) (OpV.fieldP fa_52_1 rfl rfl) ?_ (gT hg6)
      refine vV (x := (.int .i64 a1.From)) (OpV.load rfl Tryz.isAgg3 rfl (Pts.cells rfl rfl)) ?_ (gT hg6)
      refine vV (x := (.ptr 0 2)) (OpV.fieldP fa_52_2 rfl rfl) ?_ (gT hg6)
      refine vV (x := (.int .i64 a1.To)) (OpV.load rfl Tryz.isAgg3 rfl (Pts.cells rfl rfl)) ?_ (gT hg6)
      refine vV (x := (.bool (decide (a1.From ≤ a1.To)))) (OpV.leq rfl rfl rfl) ?_ (gT hg6)
      refine vV (x := (.bool (decide (a1.From ≤ a1.To)))) (OpV.pickT hg6) ?_
      refine vV (x := (.bool (decide (a1.From ≤ a1.To)))) (OpV.assign rfl rfl) ?_
      refine WO.nil ?_
      obtain rfl := Option.some.inj h4
      refine cutN ?_
      exact Le.ren [] rfl rfl (by decide) ⟨rfl, trivial⟩
    · have h4 := ifF hg6 h4
      refine vS (gF hg6) ?_
      refine vS (gF hg6) ?_
      refine vS (gF hg6) ?_
      refine vS (gF hg6) ?_
      refine vS (gF hg6) ?_
      refine vV (x := (.bool false)) (OpV.pickF hg6) ?_
      refine vV (x := (.bool false)) (OpV.assign rfl rfl) ?_
      refine WO.nil ?_
      obtain rfl := Option.some.inj h4
      refine cutN ?_
      exact Le.ren [] rfl rfl (by decide) ⟨rfl, trivial⟩
  refine seqN (TC.le hle ?_)
  refine TC.ret ?_
  obtain rfl := Option.some.inj h
  refine ⟨[(2, .bool b3)], [], _, ?_, ResOK.one rfl rfl, rfl, rfl⟩
  exact Le.ren [] rfl rfl (by decide) ⟨rfl, trivial⟩

/- stopwatch/typing.all[stopwatch/api.Category]$1 -/
def F_typing_all_16 (n : Nat) (a1 : Category) : Option Bool :=
  (F_typing_numbers_10 n a1).bind fun r1 => some (!r1)
theorem ok_typing_all_16 (n : Nat) (a1 : Category) (r : Bool) (h : F_typing_all_16 n a1 = some r) :
    C Tryz.prog 154 [.agg (Category.cells a1), .ptr 0 0] [.cells 158 [.fn (.func 103) [] []]] (fun a H => a = .bool r ∧ H = [.cells 158 [.fn (.func 103) [] []]]) := by
  refine C.of_body Tryz.func154 rfl rfl rfl ?_
  refine TC.seq ?_
  refine TC.region ?_
  refine vH (OpH.box rfl rfl rfl rfl rfl) ?_
  refine WO.atV (x := (.ptr 1 0)) (H := [.cells 158 [.fn (.func 103) [] []], .cells 52 (Category.cells a1)]) rfl rfl ?_
  refine vV (x := (.bool false)) (OpV.assign rfl rfl) ?_
  refine WO.nil ?_
  refine seqN ?_
  refine TC.seq ?_
  refine TC.region ?_
  refine vV (x := (.fn (.func 103) [] [])) (OpV.load rfl Tryz.isAgg158 rfl (Pts.cells rfl rfl)) ?_
  refine vV (x := (.agg (Category.cells a1))) (OpV.loadA rfl Tryz.isAgg52 Tryz.sizeOf52 rfl (Pts.cells rfl rfl) rfl rfl) ?_
  obtain ⟨r1, hr1, h⟩ := bnd h
  refine WO.callD [] (OpC.clo Tryz.call103 rfl rfl rfl rfl) (ok_typing_numbers_10 _ _ _ hr1) ?_
  rintro _ _ ⟨rfl, rfl⟩
  refine WO.atV (x := (.bool r1)) (H := [.cells 158 [.fn (.func 103) [] []], .cells 52 (Category.cells a1)]) rfl rfl ?_
  refine vV (x := (.bool (!r1))) (OpV.not rfl rfl) ?_
  refine vV (x := (.bool (!r1))) (OpV.assign rfl rfl) ?_
  refine WO.nil ?_
  refine seqN ?_
  refine TC.ret ?_
  obtain rfl := Option.some.inj h
  refine ⟨[(3, .bool (!r1))], [.cells 158 [.fn (.func 103) [] []]], _, ?_, ResOK.one rfl rfl, rfl, rfl⟩
  exact Le.ren [0] rfl rfl (by decide) ⟨rfl, trivial⟩

/- slices.IndexFunc[[]stopwatch/api.Category,stopwatch/api.Category] -/
def F_slices_IndexFunc_9_L1 (n : Nat) (a1 : List Category) (s13 : Int) : Option (Ctl Int (Ctl Unit Int)) :=
  (bif decide (s13 < (a1.length : Int)) then (idx a1 s13).bind fun x17 => (F_typing_all_16 n x17).bind fun r18 => (bif r18 then some (.done (.done s13)) else some (.cont (IntKind.i64.wrap (s13 + 1)))) else some (.done (.cont ())))
def F_slices_IndexFunc_9 (n : Nat) (a1 : List Category) : Option Int :=
  (iter (F_slices_IndexFunc_9_L1 n a1) n 0 : Option (Ctl Unit Int)).bind fun b10 => match b10 with | .cont sb10 => (some (-1)) | .done sb10 => some sb10
theorem ok_slices_IndexFunc_9 (n : Nat) (a1 : List Category) (r : Int) (h : F_slices_IndexFunc_9 n a1 = some r) :
    C Tryz.prog 179 [.rsl 3 (List.map Category.cells a1), .fn (.func 154) [] [.ptr 0 0]] [.cells 158 [.fn (.func 103) [] []]] (fun a H => a = .int .i64 r ∧ H = [.cells 158 [.fn (.func 103) [] []]]) := by
  refine C.of_body Tryz.func179 rfl rfl rfl ?_
  refine TC.seq ?_
  refine TC.region ?_
  refine vV (x := (.int .i64 0)) (OpV.assign rfl rfl) ?_
  refine WO.nil ?_
  refine seqN ?_
  refine TC.seq ?_
  refine TC.seq ?_
  refine TC.region ?_
  refine vV (x := (.rsl 3 (List.map Category.cells a1))) (OpV.move rfl rfl) ?_
  refine vV (x := (.int .i64 (a1.length : Int))) (OpV.lenM Tryz.runUnderlying27) ?_
  refine vV (x := (.int .i64 0)) (OpV.move rfl rfl) ?_
  refine WO.nil ?_
  refine seqN ?_
  obtain ⟨b10, h11, h⟩ := bnd h
  refine TC.cutE (b := b10) (fun sb10 => []) (fun sb10 => [.cells 158 [.fn (.func 103) [] []]]) ?_ (fun sb10 env H hbe hle => ?_)
  ·
    refine TC.block ?_
    refine TC.loop (E := fun s13 => [(0, .rsl 3 (List.map Category.cells a1)), (1, .fn (.func 154) [] [.ptr 0 0]), (7, .int .i64 (a1.length : Int)), (8, .int .i64 s13)]) (Hp := fun s13 => [.cells 158 [.fn (.func 103) [] []]]) h11 ?_ ?_
    ·
      exact Le.ren [0] rfl rfl (by decide) ⟨rfl, rfl, rfl, rfl, trivial⟩
    intro s13 d14 h15 hb12
    refine TC.seq ?_
    refine TC.region ?_
    refine vV (x := (.bool (decide (s13 < (a1.length : Int))))) (OpV.lss rfl rfl rfl) ?_
    refine WO.nil ?_
    refine seqN ?_
    refine TC.seq ?_
    refine TC.condS rfl (fun hc16 => ?_) (fun hc16 => ?_)
    · have h15 := ifF hc16 h15
      refine TC.exit ?_
      refine seqX ?_
      refine loopX h15 ?_
      obtain rfl := hb12 _ (Option.some.inj h15).symm
      refine bloE ?_
      refine cutEN rfl ?_
      exact Le.ren [0] rfl rfl (by decide) trivial
    have h15 := ifT hc16 h15
    refine TC.skip ?_
    refine seqN ?_
    refine TC.seq ?_
    refine TC.block ?_
    refine TC.seq ?_
    refine TC.region ?_
    refine vV (x := (.int .i64 s13)) (OpV.move rfl rfl) ?_
    refine vV (x := (.int .i64 s13)) (OpV.assign rfl rfl) ?_
    refine WO.nil ?_
    refine seqN ?_
    refine TC.seq ?_
    refine TC.region ?_
    refine vV (x := (.fn (.func 154) [] [.ptr 0 0])) (OpV.move rfl rfl) ?_
    refine vV (x := (.rsl 3 (List.map Category.cells a1))) (OpV.move rfl rfl) ?_
    refine vV (x := (.int .i64 s13)) (OpV.move rfl rfl) ?_
    obtain ⟨x17, hx17, h15⟩ := bnd h15
    refine vV (x := (.rp [.str x17.Name, .int .i64 x17.From, .int .i64 x17.To])) (OpV.ixM (e := Category.cells) (v := x17) hx17 Tryz.runUnderlying27 Tryz.sizeOf52) ?_
    refine vV (x := (.agg (Category.cells x17))) (OpV.loadA rfl Tryz.isAgg52 Tryz.sizeOf52 rfl Pts.rp rfl rfl) ?_
    obtain ⟨r18, hr18, h15⟩ := bnd h15
    refine WO.callD [0] (OpC.clo Tryz.call154 rfl rfl rfl rfl) (ok_typing_all_16 _ _ _ hr18) ?_
    rintro _ _ ⟨rfl, rfl⟩
    refine WO.atV (x := (.bool r18)) (H := [.cells 158 [.fn (.func 103) [] []]]) rfl rfl ?_
    refine WO.nil ?_
    refine seqN ?_
    refine TC.cond rfl (fun hc19 => ?_) (fun hc19 => ?_)
    · have h15 := ifT hc19 h15
      refine TC.seq ?_
      refine TC.region ?_
      refine vV (x := (.int .i64 s13)) (OpV.move rfl rfl) ?_
      refine vV (x := (.int .i64 s13)) (OpV.assign rfl rfl) ?_
      refine WO.nil ?_
      refine seqN ?_
      refine TC.ret ?_
      refine bloR ?_
      refine seqR ?_
      refine loopR h15 ?_
      obtain rfl := hb12 _ (Option.some.inj h15).symm
      refine bloR ?_
      refine cutER ?_
      refine seqR ?_
      obtain rfl := Option.some.inj h
      refine ⟨[(4, .int .i64 s13)], [.cells 158 [.fn (.func 103) [] []]], _, ?_, ResOK.one rfl rfl, rfl, rfl⟩
      exact Le.ren [0] rfl rfl (by decide) ⟨rfl, trivial⟩
    have h15 := ifF hc19 h15
    refine TC.skip ?_
    refine bloN ?_
    refine seqN ?_
    refine TC.region ?_
    refine vV (x := (.int .i64 (IntKind.i64.wrap (s13 + 1)))) (OpV.add rfl rfl rfl) ?_
    refine vV (x := (.int .i64 (IntKind.i64.wrap (s13 + 1)))) (OpV.move rfl rfl) ?_
    refine WO.nil ?_
    refine loopN h15 ?_
    exact Le.ren [0] rfl rfl (by decide) ⟨rfl, rfl, rfl, rfl, trivial⟩
  subst hbe
  refine seqN (TC.le hle ?_)
  refine TC.seq ?_
  refine TC.region ?_
  refine vV (x := (.int .i64 (-1))) (OpV.assign rfl rfl) ?_
  refine WO.nil ?_
  refine seqN ?_
  refine TC.ret ?_
  obtain rfl := Option.some.inj h
  refine ⟨[(4, .int .i64 (-1))], [.cells 158 [.fn (.func 103) [] []]], _, ?_, ResOK.one rfl rfl, rfl, rfl⟩
  exact Le.ren [0] rfl rfl (by decide) ⟨rfl, trivial⟩

/- slices.ContainsFunc[[]stopwatch/api.Category,stopwatch/api.Category] -/
def F_slices_ContainsFunc_9 (n : Nat) (a1 : List Category) : Option Bool :=
  (F_slices_IndexFunc_9 n a1).bind fun r1 => some (decide (0 ≤ r1))
theorem ok_slices_ContainsFunc_9 (n : Nat) (a1 : List Category) (r : Bool) (h : F_slices_ContainsFunc_9 n a1 = some r) :
    C Tryz.prog 153 [.rsl 3 (List.map Category.cells a1), .fn (.func 154) [] [.ptr 0 0]] [.cells 158 [.fn (.func 103) [] []]] (fun a H => a = .bool r ∧ H = [.cells 158 [.fn (.func 103) [] []]]) := by
  refine C.of_body Tryz.func153 rfl rfl rfl ?_
  refine TC.seq ?_
  refine TC.region ?_
  refine vV (x := (.bool false)) (OpV.assign rfl rfl) ?_
  refine WO.nil ?_
  refine seqN ?_
  refine TC.seq ?_
  refine TC.region ?_
  refine vV (x := (.rsl 3 (List.map Category.cells a1))) (OpV.move rfl rfl) ?_
  refine vV (x := (.fn (.func 154) [] [.ptr 0 0])) (OpV.move rfl rfl) ?_
  obtain ⟨r1, hr1, h⟩ := bnd h
  refine WO.callD [0] (OpC.fn Tryz.call179 rfl rfl rfl) (ok_slices_IndexFunc_9 _ _ _ hr1) ?_
  rintro _ _ ⟨rfl, rfl⟩
  refine WO.atV (x := (.int .i64 r1)) (H := [.cells 158 [.fn (.func 103) [] []]]) rfl rfl ?_
  refine vV (x := (.bool (decide (0 ≤ r1)))) (OpV.geq rfl rfl rfl) ?_
  refine vV (x := (.bool (decide (0 ≤ r1)))) (OpV.assign rfl rfl) ?_
  refine WO.nil ?_
  refine seqN ?_
  refine TC.ret ?_
  obtain rfl := Option.some.inj h
  refine ⟨[(4, .bool (decide (0 ≤ r1)))], [.cells 158 [.fn (.func 103) [] []]], _, ?_, ResOK.one rfl rfl, rfl, rfl⟩
  exact Le.ren [0] rfl rfl (by decide) ⟨rfl, trivial⟩

/- stopwatch/typing.all[stopwatch/api.Category] -/
def F_typing_all_15 (n : Nat) (a1 : List Category) : Option Bool :=
  (F_slices_ContainsFunc_9 n a1).bind fun r1 => some (!r1)
theorem ok_typing_all_15 (n : Nat) (a1 : List Category) (r : Bool) (h : F_typing_all_15 n a1 = some r) :
    C Tryz.prog 102 [.rsl 3 (List.map Category.cells a1), .fn (.func 103) [] []] [] (fun a H => a = .bool r ∧ H = []) := by
  refine C.of_body Tryz.func102 rfl rfl rfl ?_
  refine TC.seq ?_
  refine TC.region ?_
  refine vH (OpH.box rfl rfl rfl rfl rfl) ?_
  refine WO.atV (x := (.ptr 0 0)) (H := [.cells 158 [.fn (.func 103) [] []]]) rfl rfl ?_
  refine vV (x := (.bool false)) (OpV.assign rfl rfl) ?_
  refine WO.nil ?_
  refine seqN ?_
  refine TC.seq ?_
  refine TC.region ?_
  refine vV (x := (.rsl 3 (List.map Category.cells a1))) (OpV.move rfl rfl) ?_
  refine vV (x := (.fn (.func 154) [] [.ptr 0 0])) (OpV.makeFunc (first := []) (cap := [.tmp 3]) rfl rfl rfl) ?_
  obtain ⟨r1, hr1, h⟩ := bnd h
  refine WO.callD [0] (OpC.fn Tryz.call153 rfl rfl rfl) (ok_slices_ContainsFunc_9 _ _ _ hr1) ?_
  rintro _ _ ⟨rfl, rfl⟩
  refine WO.atV (x := (.bool r1)) (H := [.cells 158 [.fn (.func 103) [] []]]) rfl rfl ?_
  refine vV (x := (.bool (!r1))) (OpV.not rfl rfl) ?_
  refine vV (x := (.bool (!r1))) (OpV.assign rfl rfl) ?_
  refine WO.nil ?_
  refine seqN ?_
  refine TC.ret ?_
  obtain rfl := Option.some.inj h
  refine ⟨[(4, .bool (!r1))], [], _, ?_, ResOK.one rfl rfl, rfl, rfl⟩
  exact Le.ren [] rfl rfl (by decide) ⟨rfl, trivial⟩

/- stopwatch/typing.numbers$6 -/
def F_typing_numbers_6 (n : Nat) (a1 : Prize) (a2 : Course) : Option (Course × Bool) :=
  ((F_typing_within n 0 (IntKind.i64.wrap ((a2.Distances.length : Int) - 1)) [a1.Distance]).bind fun r10 => (bif r10 then (F_typing_within n (-1) (IntKind.i64.wrap ((a2.Categories.length : Int) - 1)) [a1.Category]).bind fun r12 => (bif r12 then (F_typing_within n 1 4000 [a1.Rank]).bind fun r14 => (bif r14 then (F_typing_within n 1 1125899906842624 [a1.Amount]).bind fun r16 => some (a2, r16) else some (a2, false)) else some (a2, false)) else some (a2, false)) : Option (Course × Bool)).bind fun b8 => some (b8.1, b8.2)
theorem ok_typing_numbers_6 (n : Nat) (a1 : Prize) (a2 : Course) (r : Course × Bool) (h : F_typing_numbers_6 n a1 a2 = some r) :
    C Tryz.prog 93 [.agg (Prize.cells a1), .ptr 0 0] [.cells 33 (Course.cells a2)] (fun a H => a = .bool r.2 ∧ H = [.cells 33 (Course.cells r.1)]) := by
  refine C.of_body Tryz.func93 rfl rfl rfl ?_
  refine TC.seq ?_
  refine TC.region ?_
  refine vH (OpH.box rfl rfl rfl rfl rfl) ?_
  refine WO.atV (x := (.ptr 1 0)) (H := [.cells 33 (Course.cells a2), .cells 117 (Prize.cells a1)]) rfl rfl ?_
  refine vV (x := (.bool false)) (OpV.assign rfl rfl) ?_
  refine WO.nil ?_
  refine seqN ?_
  refine TC.seq ?_
  obtain ⟨b8, h9, h⟩ := bnd h
  refine TC.cut ([(3, .bool b8.2)]) ([.cells 33 (Course.cells b8.1)]) ?_ (fun env H hle => ?_)
  ·
    refine TC.region ?_
    refine vV (x := (.ptr 0 3)) (OpV.fieldP fa_33_3 rfl rfl) ?_
    refine vV (x := (.rsl 5 (List.map Distance.cells a2.Distances))) (OpV.load rfl Tryz.isAgg24 rfl (Pts.cells rfl rfl)) ?_
    refine vV (x := (.int .i64 (a2.Distances.length : Int))) (OpV.lenM Tryz.runUnderlying24) ?_
    refine vV (x := (.int .i64 (IntKind.i64.wrap ((a2.Distances.length : Int) - 1)))) (OpV.sub rfl rfl rfl) ?_
    refine vV (x := (.ptr 1 0)) (OpV.fieldP fa_117_0 rfl rfl) ?_
    refine vV (x := (.int .i64 a1.Distance)) (OpV.load rfl Tryz.isAgg3 rfl (Pts.cells rfl rfl)) ?_
    refine vH (OpH.lit (xs := [.tmp 9]) (es := List.map (encI .i64) [a1.Distance]) el_39 rfl rfl rfl rfl rfl ⟨rfl, trivial⟩ rfl rfl) ?_
    refine WO.atV (x := (.osl 2 0 ([a1.Distance].length) 1)) (H := [.cells 33 (Course.cells a2), .cells 117 (Prize.cells a1), .row 3 1 (List.map (encI .i64) [a1.Distance])]) rfl rfl ?_
    obtain ⟨r10, hr10, h9⟩ := bnd h9
    refine WO.callB (OpC.fn Tryz.call86 rfl rfl rfl) (LookL.cons rfl (.inl ⟨rfl, rfl⟩) (LookL.cons rfl (.inl ⟨rfl, rfl⟩) (LookL.cons rfl (.inr ⟨_, _, _, _, _, rfl, rfl, List.length_map .., rfl⟩) LookL.nil))) (ok_typing_within _ _ _ _ _ hr10) (by rintro _ _ ⟨rfl, rfl⟩; rfl) ?_
    rintro _ _ ⟨rfl, rfl⟩
    refine WO.atV (x := (.bool r10)) (H := [.cells 33 (Course.cells a2), .cells 117 (Prize.cells a1), .row 3 1 (List.map (encI .i64) [a1.Distance])]) rfl rfl ?_
    refine vV (x := (.bool r10)) (OpV.move rfl rfl) ?_
    rcases bTF (r10) with hg11 | hg11
    · have h9 := ifT hg11 h9
      refine vV (x := (.ptr 0 6)) (OpV.fieldP fa_33_6 rfl rfl) ?_ (gT hg11)
      refine vV (x := (.rsl 3 (List.map Category.cells a2.Categories))) (OpV.load rfl Tryz.isAgg27 rfl (Pts.cells rfl rfl)) ?_ (gT hg11)
      refine vV (x := (.int .i64 (a2.Categories.length : Int))) (OpV.lenM Tryz.runUnderlying27) ?_ (gT hg11)
      refine vV (x := (.int .i64 (IntKind.i64.wrap ((a2.Categories.length : Int) - 1)))) (OpV.sub rfl rfl rfl) ?_ (gT hg11)
      refine vV (x := (.ptr 1 1)) (OpV.fieldP fa_117_1 rfl rfl) ?_ (gT hg11)
      refine vV (x := (.int .i64 a1.Category)) (OpV.load rfl Tryz.isAgg3 rfl (Pts.cells rfl rfl)) ?_ (gT hg11)
      refine vH (OpH.lit (xs := [.tmp 18]) (es := List.map (encI .i64) [a1.Category]) el_39 rfl rfl rfl rfl rfl ⟨rfl, trivial⟩ rfl rfl) ?_ (gT hg11)
      refine WO.atV (x := (.osl 3 0 ([a1.Category].length) 1)) (H := [.cells 33 (Course.cells a2), .cells 117 (Prize.cells a1), .row 3 1 (List.map (encI .i64) [a1.Distance]), .row 3 1 (List.map (encI .i64) [a1.Category])]) rfl rfl ?_
      obtain ⟨r12, hr12, h9⟩ := bnd h9
      refine WO.callB (OpC.fn Tryz.call86 rfl rfl rfl) (LookL.cons rfl (.inl ⟨rfl, rfl⟩) (LookL.cons rfl (.inl ⟨rfl, rfl⟩) (LookL.cons rfl (.inr ⟨_, _, _, _, _, rfl, rfl, List.length_map .., rfl⟩) LookL.nil))) (ok_typing_within _ _ _ _ _ hr12) (by rintro _ _ ⟨rfl, rfl⟩; rfl) ?_ (gT hg11)
      rintro _ _ ⟨rfl, rfl⟩
      refine WO.atV (x := (.bool r12)) (H := [.cells 33 (Course.cells a2), .cells 117 (Prize.cells a1), .row 3 1 (List.map (encI .i64) [a1.Distance]), .row 3 1 (List.map (encI .i64) [a1.Category])]) rfl rfl ?_
      refine vV (x := (.bool r12)) (OpV.pickT hg11) ?_
      refine vV (x := (.bool r12)) (OpV.move rfl rfl) ?_
      rcases bTF (r12) with hg13 | hg13
      · have h9 := ifT hg13 h9
        refine vV (x := (.ptr 1 2)) (OpV.fieldP fa_117_2 rfl rfl) ?_ (gT hg13)
        refine vV (x := (.int .i64 a1.Rank)) (OpV.load rfl Tryz.isAgg3 rfl (Pts.cells rfl rfl)) ?_ (gT hg13)
        refine vH (OpH.lit (xs := [.tmp 24]) (es := List.map (encI .i64) [a1.Rank]) el_39 rfl rfl rfl rfl rfl ⟨rfl, trivial⟩ rfl rfl) ?_ (gT hg13)
        refine WO.atV (x := (.osl 4 0 ([a1.Rank].length) 1)) (H := [.cells 33 (Course.cells a2), .cells 117 (Prize.cells a1), .row 3 1 (List.map (encI .i64) [a1.Distance]), .row 3 1 (List.map (encI .i64) [a1.Category]), .row 3 1 (List.map (encI .i64) [a1.Rank])]) rfl rfl ?_
        obtain ⟨r14, hr14, h9⟩ := bnd h9
        refine WO.callB (OpC.fn Tryz.call86 rfl rfl rfl) (LookL.cons rfl (.inl ⟨rfl, rfl⟩) (LookL.cons rfl (.inl ⟨rfl, rfl⟩) (LookL.cons rfl (.inr ⟨_, _, _, _, _, rfl, rfl, List.length_map .., rfl⟩) LookL.nil))) (ok_typing_within _ _ _ _ _ hr14) (by rintro _ _ ⟨rfl, rfl⟩; rfl) ?_ (gT hg13)
        rintro _ _ ⟨rfl, rfl⟩
        refine WO.atV (x := (.bool r14)) (H := [.cells 33 (Course.cells a2), .cells 117 (Prize.cells a1), .row 3 1 (List.map (encI .i64) [a1.Distance]), .row 3 1 (List.map (encI .i64) [a1.Category]), .row 3 1 (List.map (encI .i64) [a1.Rank])]) rfl rfl ?_
        refine vV (x := (.bool r14)) (OpV.pickT hg13) ?_
        refine vV (x := (.bool r14)) (OpV.move rfl rfl) ?_
        rcases bTF (r14) with hg15 | hg15
        · have h9 := ifT hg15 h9
          refine vV (x := (.ptr 1 3)) (OpV.fieldP fa_117_3 rfl rfl) ?_ (gT hg15)
          refine vV (x := (.int .i64 a1.Amount)) (OpV.load rfl Tryz.isAgg3 rfl (Pts.cells rfl rfl)) ?_ (gT hg15)
          refine vH (OpH.lit (xs := [.tmp 30]) (es := List.map (encI .i64) [a1.Amount]) el_39 rfl rfl rfl rfl rfl ⟨rfl, trivial⟩ rfl rfl) ?_ (gT hg15)
          refine WO.atV (x := (.osl 5 0 ([a1.Amount].length) 1)) (H := [.cells 33 (Course.cells a2), .cells 117 (Prize.cells a1), .row 3 1 (List.map (encI .i64) [a1.Distance]), .row 3 1 (List.map (encI .i64) [a1.Category]), .row 3 1 (List.map (encI .i64) [a1.Rank]), .row 3 1 (List.map (encI .i64) [a1.Amount])]) rfl rfl ?_
          obtain ⟨r16, hr16, h9⟩ := bnd h9
          refine WO.callB (OpC.fn Tryz.call86 rfl rfl rfl) (LookL.cons rfl (.inl ⟨rfl, rfl⟩) (LookL.cons rfl (.inl ⟨rfl, rfl⟩) (LookL.cons rfl (.inr ⟨_, _, _, _, _, rfl, rfl, List.length_map .., rfl⟩) LookL.nil))) (ok_typing_within _ _ _ _ _ hr16) (by rintro _ _ ⟨rfl, rfl⟩; rfl) ?_ (gT hg15)
          rintro _ _ ⟨rfl, rfl⟩
          refine WO.atV (x := (.bool r16)) (H := [.cells 33 (Course.cells a2), .cells 117 (Prize.cells a1), .row 3 1 (List.map (encI .i64) [a1.Distance]), .row 3 1 (List.map (encI .i64) [a1.Category]), .row 3 1 (List.map (encI .i64) [a1.Rank]), .row 3 1 (List.map (encI .i64) [a1.Amount])]) rfl rfl ?_
          refine vV (x := (.bool r16)) (OpV.pickT hg15) ?_
          refine vV (x := (.bool r16)) (OpV.assign rfl rfl) ?_
          refine WO.nil ?_
          obtain rfl := Option.some.inj h9
          refine cutN ?_
          exact Le.ren [0] rfl rfl (by decide) ⟨rfl, trivial⟩
        · have h9 := ifF hg15 h9
          refine vS (gF hg15) ?_
          refine vS (gF hg15) ?_
          refine vS (gF hg15) ?_
          refine vS (gF hg15) ?_
          refine vV (x := (.bool false)) (OpV.pickF hg15) ?_
          refine vV (x := (.bool false)) (OpV.assign rfl rfl) ?_
          refine WO.nil ?_
          obtain rfl := Option.some.inj h9
          refine cutN ?_
          exact Le.ren [0] rfl rfl (by decide) ⟨rfl, trivial⟩
      · have h9 := ifF hg13 h9
        refine vS (gF hg13) ?_
        refine vS (gF hg13) ?_
        refine vS (gF hg13) ?_
        refine vS (gF hg13) ?_
        refine vV (x := (.bool false)) (OpV.pickF hg13) ?_
        refine vV (x := (.bool false)) (OpV.move rfl rfl) ?_
        refine vS (gF rfl) ?_
        refine vS (gF rfl) ?_
        refine vS (gF rfl) ?_
        refine vS (gF rfl) ?_
        refine vV (x := (.bool false)) (OpV.pickF rfl) ?_
        refine vV (x := (.bool false)) (OpV.assign rfl rfl) ?_
        refine WO.nil ?_
        obtain rfl := Option.some.inj h9
        refine cutN ?_
        exact Le.ren [0] rfl rfl (by decide) ⟨rfl, trivial⟩
    · have h9 := ifF hg11 h9
      refine vS (gF hg11) ?_
      refine vS (gF hg11) ?_
      refine vS (gF hg11) ?_
      refine vS (gF hg11) ?_
      refine vS (gF hg11) ?_
      refine vS (gF hg11) ?_
      refine vS (gF hg11) ?_
      refine vS (gF hg11) ?_
      refine vV (x := (.bool false)) (OpV.pickF hg11) ?_
      refine vV (x := (.bool false)) (OpV.move rfl rfl) ?_
      refine vS (gF rfl) ?_
      refine vS (gF rfl) ?_
      refine vS (gF rfl) ?_
      refine vS (gF rfl) ?_
      refine vV (x := (.bool false)) (OpV.pickF rfl) ?_
      refine vV (x := (.bool false)) (OpV.move rfl rfl) ?_
      refine vS (gF rfl) ?_
      refine vS (gF rfl) ?_
      refine vS (gF rfl) ?_
      refine vS (gF rfl) ?_
      refine vV (x := (.bool false)) (OpV.pickF rfl) ?_
      refine vV (x := (.bool false)) (OpV.assign rfl rfl) ?_
      refine WO.nil ?_
      obtain rfl := Option.some.inj h9
      refine cutN ?_
      exact Le.ren [0] rfl rfl (by decide) ⟨rfl, trivial⟩
  refine seqN (TC.le hle ?_)
  refine TC.ret ?_
  obtain rfl := Option.some.inj h
  refine ⟨[(3, .bool ((b8.1, b8.2).2))], [.cells 33 [.str (((b8.1, b8.2).1).Name), .rsl 2 (List.map Mat.cells (((b8.1, b8.2).1).Mats)), .rsl 4 (List.map Leg.cells (((b8.1, b8.2).1).Legs)), .rsl 5 (List.map Distance.cells (((b8.1, b8.2).1).Distances)), .rsl 2 (List.map Wave.cells (((b8.1, b8.2).1).Waves)), .rsl 4 (List.map Offence.cells (((b8.1, b8.2).1).Offences)), .rsl 3 (List.map Category.cells (((b8.1, b8.2).1).Categories)), .rsl 4 (List.map Prize.cells (((b8.1, b8.2).1).Prizes)), .rsl 8 (List.map Step.enc (((b8.1, b8.2).1).Ties)), .int .i64 ((((b8.1, b8.2).1).Faults).Misses), .int .i64 ((((b8.1, b8.2).1).Faults).Strays), .int .i64 ((((b8.1, b8.2).1).Faults).Window), .int .i64 ((((b8.1, b8.2).1).Faults).Residual), .int .i64 ((((b8.1, b8.2).1).Faults).Drift), .int .i64 (((b8.1, b8.2).1).Fee), .int .i64 (((b8.1, b8.2).1).Deadline)]], _, ?_, ResOK.one rfl rfl, rfl, rfl⟩
  exact Le.ren [0] rfl rfl (by decide) ⟨rfl, trivial⟩

/- stopwatch/typing.all[stopwatch/api.Prize]$1 -/
def F_typing_all_18 (n : Nat) (a1 : Prize) (a2 : Course) : Option (Course × Bool) :=
  (F_typing_numbers_6 n a1 a2).bind fun r1 => some (r1.1, (!r1.2))
theorem ok_typing_all_18 (n : Nat) (a1 : Prize) (a2 : Course) (r : Course × Bool) (h : F_typing_all_18 n a1 a2 = some r) :
    C Tryz.prog 156 [.agg (Prize.cells a1), .ptr 0 0] [.cells 148 [.fn (.func 93) [] [.ptr 1 0]], .cells 33 (Course.cells a2)] (fun a H => a = .bool r.2 ∧ H = [.cells 148 [.fn (.func 93) [] [.ptr 1 0]], .cells 33 (Course.cells r.1)]) := by
  refine C.of_body Tryz.func156 rfl rfl rfl ?_
  refine TC.seq ?_
  refine TC.region ?_
  refine vH (OpH.box rfl rfl rfl rfl rfl) ?_
  refine WO.atV (x := (.ptr 2 0)) (H := [.cells 148 [.fn (.func 93) [] [.ptr 1 0]], .cells 33 (Course.cells a2), .cells 117 (Prize.cells a1)]) rfl rfl ?_
  refine vV (x := (.bool false)) (OpV.assign rfl rfl) ?_
  refine WO.nil ?_
  refine seqN ?_
  refine TC.seq ?_
  refine TC.region ?_
  refine vV (x := (.fn (.func 93) [] [.ptr 1 0])) (OpV.load rfl Tryz.isAgg148 rfl (Pts.cells rfl rfl)) ?_
  refine vV (x := (.agg (Prize.cells a1))) (OpV.loadA rfl Tryz.isAgg117 Tryz.sizeOf117 rfl (Pts.cells rfl rfl) rfl rfl) ?_
  obtain ⟨r1, hr1, h⟩ := bnd h
  refine WO.callD [1] (OpC.clo Tryz.call93 rfl rfl rfl rfl) (ok_typing_numbers_6 _ _ _ _ hr1) ?_
  rintro _ _ ⟨rfl, rfl⟩
  refine WO.atV (x := (.bool r1.2)) (H := [.cells 148 [.fn (.func 93) [] [.ptr 1 0]], .cells 33 (Course.cells r1.1), .cells 117 (Prize.cells a1)]) rfl rfl ?_
  refine vV (x := (.bool (!r1.2))) (OpV.not rfl rfl) ?_
  refine vV (x := (.bool (!r1.2))) (OpV.assign rfl rfl) ?_
  refine WO.nil ?_
  refine seqN ?_
  refine TC.ret ?_
  obtain rfl := Option.some.inj h
  refine ⟨[(3, .bool ((r1.1, (!r1.2)).2))], [.cells 148 [.fn (.func 93) [] [.ptr 1 0]], .cells 33 [.str (((r1.1, (!r1.2)).1).Name), .rsl 2 (List.map Mat.cells (((r1.1, (!r1.2)).1).Mats)), .rsl 4 (List.map Leg.cells (((r1.1, (!r1.2)).1).Legs)), .rsl 5 (List.map Distance.cells (((r1.1, (!r1.2)).1).Distances)), .rsl 2 (List.map Wave.cells (((r1.1, (!r1.2)).1).Waves)), .rsl 4 (List.map Offence.cells (((r1.1, (!r1.2)).1).Offences)), .rsl 3 (List.map Category.cells (((r1.1, (!r1.2)).1).Categories)), .rsl 4 (List.map Prize.cells (((r1.1, (!r1.2)).1).Prizes)), .rsl 8 (List.map Step.enc (((r1.1, (!r1.2)).1).Ties)), .int .i64 ((((r1.1, (!r1.2)).1).Faults).Misses), .int .i64 ((((r1.1, (!r1.2)).1).Faults).Strays), .int .i64 ((((r1.1, (!r1.2)).1).Faults).Window), .int .i64 ((((r1.1, (!r1.2)).1).Faults).Residual), .int .i64 ((((r1.1, (!r1.2)).1).Faults).Drift), .int .i64 (((r1.1, (!r1.2)).1).Fee), .int .i64 (((r1.1, (!r1.2)).1).Deadline)]], _, ?_, ResOK.one rfl rfl, rfl, rfl⟩
  exact Le.ren [0, 1] rfl rfl (by decide) ⟨rfl, trivial⟩

/- slices.IndexFunc[[]stopwatch/api.Prize,stopwatch/api.Prize] -/
def F_slices_IndexFunc_10_L1 (n : Nat) (a1 : List Prize) (s13 : Course × Int) : Option (Ctl (Course × Int) (Ctl Course (Course × Int))) :=
  (bif decide (s13.2 < (a1.length : Int)) then (idx a1 s13.2).bind fun x17 => (F_typing_all_18 n x17 s13.1).bind fun r18 => (bif r18.2 then some (.done (.done (r18.1, s13.2))) else some (.cont (r18.1, IntKind.i64.wrap (s13.2 + 1)))) else some (.done (.cont s13.1)))
def F_slices_IndexFunc_10 (n : Nat) (a1 : List Prize) (a2 : Course) : Option (Course × Int) :=
  (iter (F_slices_IndexFunc_10_L1 n a1) n (a2, 0) : Option (Ctl Course (Course × Int))).bind fun b10 => match b10 with | .cont sb10 => (some (sb10, (-1))) | .done sb10 => some sb10
theorem ok_slices_IndexFunc_10 (n : Nat) (a1 : List Prize) (a2 : Course) (r : Course × Int) (h : F_slices_IndexFunc_10 n a1 a2 = some r) :
    C Tryz.prog 180 [.rsl 4 (List.map Prize.cells a1), .fn (.func 156) [] [.ptr 0 0]] [.cells 148 [.fn (.func 93) [] [.ptr 1 0]], .cells 33 (Course.cells a2)] (fun a H => a = .int .i64 r.2 ∧ H = [.cells 148 [.fn (.func 93) [] [.ptr 1 0]], .cells 33 (Course.cells r.1)]) := by
  refine C.of_body Tryz.func180 rfl rfl rfl ?_
  refine TC.seq ?_
  refine TC.region ?_
  refine vV (x := (.int .i64 0)) (OpV.assign rfl rfl) ?_
  refine WO.nil ?_
  refine seqN ?_
  refine TC.seq ?_
  refine TC.seq ?_
  refine TC.region ?_
  refine vV (x := (.rsl 4 (List.map Prize.cells a1))) (OpV.move rfl rfl) ?_
  refine vV (x := (.int .i64 (a1.length : Int))) (OpV.lenM Tryz.runUnderlying28) ?_
  refine vV (x := (.int .i64 0)) (OpV.move rfl rfl) ?_
  refine WO.nil ?_
  refine seqN ?_
  obtain ⟨b10, h11, h⟩ := bnd h
  refine TC.cutE (b := b10) (fun sb10 => []) (fun sb10 => [.cells 148 [.fn (.func 93) [] [.ptr 1 0]], .cells 33 (Course.cells sb10)]) ?_ (fun sb10 env H hbe hle => ?_)
  ·
    refine TC.block ?_
    refine TC.loop (E := fun s13 => [(0, .rsl 4 (List.map Prize.cells a1)), (1, .fn (.func 156) [] [.ptr 0 0]), (7, .int .i64 (a1.length : Int)), (8, .int .i64 s13.2)]) (Hp := fun s13 => [.cells 148 [.fn (.func 93) [] [.ptr 1 0]], .cells 33 (Course.cells s13.1)]) h11 ?_ ?_
    ·
      exact Le.ren [0, 1] rfl rfl (by decide) ⟨rfl, rfl, rfl, rfl, trivial⟩
    intro s13 d14 h15 hb12
    refine TC.seq ?_
    refine TC.region ?_
    refine vV (x := (.bool (decide (s13.2 < (a1.length : Int))))) (OpV.lss rfl rfl rfl) ?_
    refine WO.nil ?_
    refine seqN ?_
    refine TC.seq ?_
    refine TC.condS rfl (fun hc16 => ?_) (fun hc16 => ?_)
    · have h15 := ifF hc16 h15
      refine TC.exit ?_
      refine seqX ?_
      refine loopX h15 ?_
      obtain rfl := hb12 _ (Option.some.inj h15).symm
      refine bloE ?_
      refine cutEN rfl ?_
      exact Le.ren [0, 1] rfl rfl (by decide) trivial
    have h15 := ifT hc16 h15
    refine TC.skip ?_
    refine seqN ?_
    refine TC.seq ?_
    refine TC.block ?_
    refine TC.seq ?_
    refine TC.region ?_
    refine vV (x := (.int .i64 s13.2)) (OpV.move rfl rfl) ?_
    refine vV (x := (.int .i64 s13.2)) (OpV.assign rfl rfl) ?_
    refine WO.nil ?_
    refine seqN ?_
    refine TC.seq ?_
    refine TC.region ?_
    refine vV (x := (.fn (.func 156) [] [.ptr 0 0])) (OpV.move rfl rfl) ?_
    refine vV (x := (.rsl 4 (List.map Prize.cells a1))) (OpV.move rfl rfl) ?_
    refine vV (x := (.int .i64 s13.2)) (OpV.move rfl rfl) ?_
    obtain ⟨x17, hx17, h15⟩ := bnd h15
    refine vV (x := (.rp [.int .i64 x17.Distance, .int .i64 x17.Category, .int .i64 x17.Rank, .int .i64 x17.Amount])) (OpV.ixM (e := Prize.cells) (v := x17) hx17 Tryz.runUnderlying28 Tryz.sizeOf117) ?_
    refine vV (x := (.agg (Prize.cells x17))) (OpV.loadA rfl Tryz.isAgg117 Tryz.sizeOf117 rfl Pts.rp rfl rfl) ?_
    obtain ⟨r18, hr18, h15⟩ := bnd h15
    refine WO.callD [0, 1] (OpC.clo Tryz.call156 rfl rfl rfl rfl) (ok_typing_all_18 _ _ _ _ hr18) ?_
    rintro _ _ ⟨rfl, rfl⟩
    refine WO.atV (x := (.bool r18.2)) (H := [.cells 148 [.fn (.func 93) [] [.ptr 1 0]], .cells 33 (Course.cells r18.1)]) rfl rfl ?_
    refine WO.nil ?_
    refine seqN ?_
    refine TC.cond rfl (fun hc19 => ?_) (fun hc19 => ?_)
    · have h15 := ifT hc19 h15
      refine TC.seq ?_
      refine TC.region ?_
      refine vV (x := (.int .i64 s13.2)) (OpV.move rfl rfl) ?_
      refine vV (x := (.int .i64 s13.2)) (OpV.assign rfl rfl) ?_
      refine WO.nil ?_
      refine seqN ?_
      refine TC.ret ?_
      refine bloR ?_
      refine seqR ?_
      refine loopR h15 ?_
      obtain rfl := hb12 _ (Option.some.inj h15).symm
      refine bloR ?_
      refine cutER ?_
      refine seqR ?_
      obtain rfl := Option.some.inj h
      refine ⟨[(4, .int .i64 ((r18.1, s13.2).2))], [.cells 148 [.fn (.func 93) [] [.ptr 1 0]], .cells 33 [.str (((r18.1, s13.2).1).Name), .rsl 2 (List.map Mat.cells (((r18.1, s13.2).1).Mats)), .rsl 4 (List.map Leg.cells (((r18.1, s13.2).1).Legs)), .rsl 5 (List.map Distance.cells (((r18.1, s13.2).1).Distances)), .rsl 2 (List.map Wave.cells (((r18.1, s13.2).1).Waves)), .rsl 4 (List.map Offence.cells (((r18.1, s13.2).1).Offences)), .rsl 3 (List.map Category.cells (((r18.1, s13.2).1).Categories)), .rsl 4 (List.map Prize.cells (((r18.1, s13.2).1).Prizes)), .rsl 8 (List.map Step.enc (((r18.1, s13.2).1).Ties)), .int .i64 ((((r18.1, s13.2).1).Faults).Misses), .int .i64 ((((r18.1, s13.2).1).Faults).Strays), .int .i64 ((((r18.1, s13.2).1).Faults).Window), .int .i64 ((((r18.1, s13.2).1).Faults).Residual), .int .i64 ((((r18.1, s13.2).1).Faults).Drift), .int .i64 (((r18.1, s13.2).1).Fee), .int .i64 (((r18.1, s13.2).1).Deadline)]], _, ?_, ResOK.one rfl rfl, rfl, rfl⟩
      exact Le.ren [0, 1] rfl rfl (by decide) ⟨rfl, trivial⟩
    have h15 := ifF hc19 h15
    refine TC.skip ?_
    refine bloN ?_
    refine seqN ?_
    refine TC.region ?_
    refine vV (x := (.int .i64 (IntKind.i64.wrap (s13.2 + 1)))) (OpV.add rfl rfl rfl) ?_
    refine vV (x := (.int .i64 (IntKind.i64.wrap (s13.2 + 1)))) (OpV.move rfl rfl) ?_
    refine WO.nil ?_
    refine loopN h15 ?_
    exact Le.ren [0, 1] rfl rfl (by decide) ⟨rfl, rfl, rfl, rfl, trivial⟩
  subst hbe
  refine seqN (TC.le hle ?_)
  refine TC.seq ?_
  refine TC.region ?_
  refine vV (x := (.int .i64 (-1))) (OpV.assign rfl rfl) ?_
  refine WO.nil ?_
  refine seqN ?_
  refine TC.ret ?_
  obtain rfl := Option.some.inj h
  refine ⟨[(4, .int .i64 ((sb10, (-1)).2))], [.cells 148 [.fn (.func 93) [] [.ptr 1 0]], .cells 33 [.str (((sb10, (-1)).1).Name), .rsl 2 (List.map Mat.cells (((sb10, (-1)).1).Mats)), .rsl 4 (List.map Leg.cells (((sb10, (-1)).1).Legs)), .rsl 5 (List.map Distance.cells (((sb10, (-1)).1).Distances)), .rsl 2 (List.map Wave.cells (((sb10, (-1)).1).Waves)), .rsl 4 (List.map Offence.cells (((sb10, (-1)).1).Offences)), .rsl 3 (List.map Category.cells (((sb10, (-1)).1).Categories)), .rsl 4 (List.map Prize.cells (((sb10, (-1)).1).Prizes)), .rsl 8 (List.map Step.enc (((sb10, (-1)).1).Ties)), .int .i64 ((((sb10, (-1)).1).Faults).Misses), .int .i64 ((((sb10, (-1)).1).Faults).Strays), .int .i64 ((((sb10, (-1)).1).Faults).Window), .int .i64 ((((sb10, (-1)).1).Faults).Residual), .int .i64 ((((sb10, (-1)).1).Faults).Drift), .int .i64 (((sb10, (-1)).1).Fee), .int .i64 (((sb10, (-1)).1).Deadline)]], _, ?_, ResOK.one rfl rfl, rfl, rfl⟩
  exact Le.ren [0, 1] rfl rfl (by decide) ⟨rfl, trivial⟩

/- slices.ContainsFunc[[]stopwatch/api.Prize,stopwatch/api.Prize] -/
def F_slices_ContainsFunc_10 (n : Nat) (a1 : List Prize) (a2 : Course) : Option (Course × Bool) :=
  (F_slices_IndexFunc_10 n a1 a2).bind fun r1 => some (r1.1, decide (0 ≤ r1.2))
theorem ok_slices_ContainsFunc_10 (n : Nat) (a1 : List Prize) (a2 : Course) (r : Course × Bool) (h : F_slices_ContainsFunc_10 n a1 a2 = some r) :
    C Tryz.prog 155 [.rsl 4 (List.map Prize.cells a1), .fn (.func 156) [] [.ptr 0 0]] [.cells 148 [.fn (.func 93) [] [.ptr 1 0]], .cells 33 (Course.cells a2)] (fun a H => a = .bool r.2 ∧ H = [.cells 148 [.fn (.func 93) [] [.ptr 1 0]], .cells 33 (Course.cells r.1)]) := by
  refine C.of_body Tryz.func155 rfl rfl rfl ?_
  refine TC.seq ?_
  refine TC.region ?_
  refine vV (x := (.bool false)) (OpV.assign rfl rfl) ?_
  refine WO.nil ?_
  refine seqN ?_
  refine TC.seq ?_
  refine TC.region ?_
  refine vV (x := (.rsl 4 (List.map Prize.cells a1))) (OpV.move rfl rfl) ?_
  refine vV (x := (.fn (.func 156) [] [.ptr 0 0])) (OpV.move rfl rfl) ?_
  obtain ⟨r1, hr1, h⟩ := bnd h
  refine WO.callD [0, 1] (OpC.fn Tryz.call180 rfl rfl rfl) (ok_slices_IndexFunc_10 _ _ _ _ hr1) ?_
  rintro _ _ ⟨rfl, rfl⟩
  refine WO.atV (x := (.int .i64 r1.2)) (H := [.cells 148 [.fn (.func 93) [] [.ptr 1 0]], .cells 33 (Course.cells r1.1)]) rfl rfl ?_
  refine vV (x := (.bool (decide (0 ≤ r1.2)))) (OpV.geq rfl rfl rfl) ?_
  refine vV (x := (.bool (decide (0 ≤ r1.2)))) (OpV.assign rfl rfl) ?_
  refine WO.nil ?_
  refine seqN ?_
  refine TC.ret ?_
  obtain rfl := Option.some.inj h
  refine ⟨[(4, .bool ((r1.1, decide (0 ≤ r1.2)).2))], [.cells 148 [.fn (.func 93) [] [.ptr 1 0]], .cells 33 [.str (((r1.1, decide (0 ≤ r1.2)).1).Name), .rsl 2 (List.map Mat.cells (((r1.1, decide (0 ≤ r1.2)).1).Mats)), .rsl 4 (List.map Leg.cells (((r1.1, decide (0 ≤ r1.2)).1).Legs)), .rsl 5 (List.map Distance.cells (((r1.1, decide (0 ≤ r1.2)).1).Distances)), .rsl 2 (List.map Wave.cells (((r1.1, decide (0 ≤ r1.2)).1).Waves)), .rsl 4 (List.map Offence.cells (((r1.1, decide (0 ≤ r1.2)).1).Offences)), .rsl 3 (List.map Category.cells (((r1.1, decide (0 ≤ r1.2)).1).Categories)), .rsl 4 (List.map Prize.cells (((r1.1, decide (0 ≤ r1.2)).1).Prizes)), .rsl 8 (List.map Step.enc (((r1.1, decide (0 ≤ r1.2)).1).Ties)), .int .i64 ((((r1.1, decide (0 ≤ r1.2)).1).Faults).Misses), .int .i64 ((((r1.1, decide (0 ≤ r1.2)).1).Faults).Strays), .int .i64 ((((r1.1, decide (0 ≤ r1.2)).1).Faults).Window), .int .i64 ((((r1.1, decide (0 ≤ r1.2)).1).Faults).Residual), .int .i64 ((((r1.1, decide (0 ≤ r1.2)).1).Faults).Drift), .int .i64 (((r1.1, decide (0 ≤ r1.2)).1).Fee), .int .i64 (((r1.1, decide (0 ≤ r1.2)).1).Deadline)]], _, ?_, ResOK.one rfl rfl, rfl, rfl⟩
  exact Le.ren [0, 1] rfl rfl (by decide) ⟨rfl, trivial⟩

/- stopwatch/typing.all[stopwatch/api.Prize] -/
def F_typing_all_17 (n : Nat) (a1 : List Prize) (a2 : Course) : Option (Course × Bool) :=
  (F_slices_ContainsFunc_10 n a1 a2).bind fun r1 => some (r1.1, (!r1.2))
theorem ok_typing_all_17 (n : Nat) (a1 : List Prize) (a2 : Course) (r : Course × Bool) (h : F_typing_all_17 n a1 a2 = some r) :
    C Tryz.prog 104 [.rsl 4 (List.map Prize.cells a1), .fn (.func 93) [] [.ptr 0 0]] [.cells 33 (Course.cells a2)] (fun a H => a = .bool r.2 ∧ H = [.cells 33 (Course.cells r.1)]) := by
  refine C.of_body Tryz.func104 rfl rfl rfl ?_
  refine TC.seq ?_
  refine TC.region ?_
  refine vH (OpH.box rfl rfl rfl rfl rfl) ?_
  refine WO.atV (x := (.ptr 1 0)) (H := [.cells 33 (Course.cells a2), .cells 148 [.fn (.func 93) [] [.ptr 0 0]]]) rfl rfl ?_
  refine vV (x := (.bool false)) (OpV.assign rfl rfl) ?_
  refine WO.nil ?_
  refine seqN ?_
  refine TC.seq ?_
  refine TC.region ?_
  refine vV (x := (.rsl 4 (List.map Prize.cells a1))) (OpV.move rfl rfl) ?_
  refine vV (x := (.fn (.func 156) [] [.ptr 1 0])) (OpV.makeFunc (first := []) (cap := [.tmp 3]) rfl rfl rfl) ?_
  obtain ⟨r1, hr1, h⟩ := bnd h
  refine WO.callD [1, 0] (OpC.fn Tryz.call155 rfl rfl rfl) (ok_slices_ContainsFunc_10 _ _ _ _ hr1) ?_
  rintro _ _ ⟨rfl, rfl⟩
  refine WO.atV (x := (.bool r1.2)) (H := [.cells 33 (Course.cells r1.1), .cells 148 [.fn (.func 93) [] [.ptr 0 0]]]) rfl rfl ?_
  refine vV (x := (.bool (!r1.2))) (OpV.not rfl rfl) ?_
  refine vV (x := (.bool (!r1.2))) (OpV.assign rfl rfl) ?_
  refine WO.nil ?_
  refine seqN ?_
  refine TC.ret ?_
  obtain rfl := Option.some.inj h
  refine ⟨[(4, .bool ((r1.1, (!r1.2)).2))], [.cells 33 [.str (((r1.1, (!r1.2)).1).Name), .rsl 2 (List.map Mat.cells (((r1.1, (!r1.2)).1).Mats)), .rsl 4 (List.map Leg.cells (((r1.1, (!r1.2)).1).Legs)), .rsl 5 (List.map Distance.cells (((r1.1, (!r1.2)).1).Distances)), .rsl 2 (List.map Wave.cells (((r1.1, (!r1.2)).1).Waves)), .rsl 4 (List.map Offence.cells (((r1.1, (!r1.2)).1).Offences)), .rsl 3 (List.map Category.cells (((r1.1, (!r1.2)).1).Categories)), .rsl 4 (List.map Prize.cells (((r1.1, (!r1.2)).1).Prizes)), .rsl 8 (List.map Step.enc (((r1.1, (!r1.2)).1).Ties)), .int .i64 ((((r1.1, (!r1.2)).1).Faults).Misses), .int .i64 ((((r1.1, (!r1.2)).1).Faults).Strays), .int .i64 ((((r1.1, (!r1.2)).1).Faults).Window), .int .i64 ((((r1.1, (!r1.2)).1).Faults).Residual), .int .i64 ((((r1.1, (!r1.2)).1).Faults).Drift), .int .i64 (((r1.1, (!r1.2)).1).Fee), .int .i64 (((r1.1, (!r1.2)).1).Deadline)]], _, ?_, ResOK.one rfl rfl, rfl, rfl⟩
  exact Le.ren [0] rfl rfl (by decide) ⟨rfl, trivial⟩

/- stopwatch/typing.numbers$11 -/
def F_typing_numbers_11 (n : Nat) (a1 : Prize) : Option typing_place :=
  some ({ distance := a1.Distance, category := a1.Category, rank := a1.Rank : typing_place })
theorem ok_typing_numbers_11 (n : Nat) (a1 : Prize) (r : typing_place) (h : F_typing_numbers_11 n a1 = some r) :
    C Tryz.prog 106 [.agg (Prize.cells a1)] [] (fun a H => a = .agg (typing_place.cells r) ∧ H = [.cells 162 (typing_place.cells r)]) := by
  refine C.of_body Tryz.func106 rfl rfl rfl ?_
  refine TC.seq ?_
  refine TC.region ?_
  refine vH (OpH.box rfl rfl rfl rfl rfl) ?_
  refine WO.atV (x := (.ptr 0 0)) (H := [.cells 117 (Prize.cells a1)]) rfl rfl ?_
  refine vH (OpH.allocZ (v := (.agg [.int .i64 0, .int .i64 0, .int .i64 0])) Tryz.zeroValue162 (ZR.agg (ZL.cons ZR.int (ZL.cons ZR.int (ZL.cons ZR.int ZL.nil))))) ?_
  refine WO.atV (x := (.ptr 1 0)) (H := [.cells 117 (Prize.cells a1), .cells 162 [.int .i64 0, .int .i64 0, .int .i64 0]]) rfl rfl ?_
  refine WO.nil ?_
  refine seqN ?_
  refine TC.seq ?_
  refine TC.region ?_
  refine vV (x := (.ptr 0 0)) (OpV.fieldP fa_117_0 rfl rfl) ?_
  refine vV (x := (.int .i64 a1.Distance)) (OpV.load rfl Tryz.isAgg3 rfl (Pts.cells rfl rfl)) ?_
  refine vV (x := (.ptr 0 1)) (OpV.fieldP fa_117_1 rfl rfl) ?_
  refine vV (x := (.int .i64 a1.Category)) (OpV.load rfl Tryz.isAgg3 rfl (Pts.cells rfl rfl)) ?_
  refine vV (x := (.ptr 0 2)) (OpV.fieldP fa_117_2 rfl rfl) ?_
  refine vV (x := (.int .i64 a1.Rank)) (OpV.load rfl Tryz.isAgg3 rfl (Pts.cells rfl rfl)) ?_
  refine vV (x := (.agg [.int .i64 a1.Distance, .int .i64 a1.Category, .int .i64 a1.Rank])) (OpV.build (zs := [.int .i64 0, .int .i64 0, .int .i64 0]) Tryz.zeroValue162 (ZR.agg (ZL.cons ZR.int (ZL.cons ZR.int (ZL.cons ZR.int ZL.nil)))) pl_162) ?_
  refine vU (OpU.store rfl rfl rfl Tryz.sizeOf162 rfl rfl rfl rfl rfl rfl rfl) ?_
  refine WO.atH (H := [.cells 117 (Prize.cells a1), .cells 162 [.int .i64 a1.Distance, .int .i64 a1.Category, .int .i64 a1.Rank]]) rfl ?_
  refine WO.nil ?_
  refine seqN ?_
  refine TC.ret ?_
  obtain rfl := Option.some.inj h
  refine ⟨[(2, .ptr 0 0)], [.cells 162 (typing_place.cells ({ distance := a1.Distance, category := a1.Category, rank := a1.Rank : typing_place }))], _, ?_, ResOK.single rfl (ResAt.cellB Tryz.isAgg162 Tryz.sizeOf162 rfl rfl rfl), rfl, rfl⟩
  exact Le.ren [1] rfl rfl (by decide) ⟨rfl, trivial⟩

/- stopwatch/typing.once[stopwatch/api.Prize,stopwatch/typing.place] -/
def F_typing_once_2_L1 (n : Nat) (a1 : List Prize) (s13 : (List (typing_place × Bool)) × Int) : Option (Ctl ((List (typing_place × Bool)) × Int) (List (typing_place × Bool))) :=
  (bif decide (s13.2 < (a1.length : Int)) then (idx a1 s13.2).bind fun x17 => (F_typing_numbers_11 n x17).bind fun r18 => (some (mset s13.1 r18 true)).bind fun m19 => some (.cont (m19, IntKind.i64.wrap (s13.2 + 1))) else some (.done s13.1))
def F_typing_once_2 (n : Nat) (a1 : List Prize) : Option Bool :=
  (iter (F_typing_once_2_L1 n a1) n ([], 0) : Option (List (typing_place × Bool))).bind fun b10 => some ((b10.length : Int) == (a1.length : Int))
theorem ok_typing_once_2 (n : Nat) (a1 : List Prize) (r : Bool) (h : F_typing_once_2 n a1 = some r) :
    C Tryz.prog 105 [.rsl 4 (List.map Prize.cells a1), .fn (.func 106) [] []] [] (fun a H => a = .bool r ∧ H = []) := by
  refine C.of_body Tryz.func105 rfl rfl rfl ?_
  refine TC.seq ?_
  refine TC.region ?_
  refine vV (x := (.bool false)) (OpV.assign rfl rfl) ?_
  refine WO.nil ?_
  refine seqN ?_
  refine TC.seq ?_
  refine TC.region ?_
  refine vH OpH.mkMap ?_
  refine WO.atV (x := (.map 0)) (H := [.map (menc (fun x => A.agg (typing_place.cells x)) A.bool [])]) rfl rfl ?_
  refine vV (x := (.map 0)) (OpV.assign rfl rfl) ?_
  refine WO.nil ?_
  refine seqN ?_
  refine TC.seq ?_
  refine TC.seq ?_
  refine TC.region ?_
  refine vV (x := (.rsl 4 (List.map Prize.cells a1))) (OpV.move rfl rfl) ?_
  refine vV (x := (.int .i64 (a1.length : Int))) (OpV.lenM Tryz.runUnderlying28) ?_
  refine vV (x := (.int .i64 0)) (OpV.move rfl rfl) ?_
  refine WO.nil ?_
  refine seqN ?_
  obtain ⟨b10, h11, h⟩ := bnd h
  refine TC.cut ([(0, .rsl 4 (List.map Prize.cells a1)), (5, .map 0)]) ([.map (menc (fun x => A.agg (typing_place.cells x)) A.bool b10)]) ?_ (fun env H hle => ?_)
  ·
    refine TC.block ?_
    refine TC.loop (E := fun s13 => [(0, .rsl 4 (List.map Prize.cells a1)), (1, .fn (.func 106) [] []), (5, .map 0), (9, .rsl 4 (List.map Prize.cells a1)), (10, .int .i64 (a1.length : Int)), (11, .int .i64 s13.2)]) (Hp := fun s13 => [.map (menc (fun x => A.agg (typing_place.cells x)) A.bool s13.1)]) h11 ?_ ?_
    ·
      exact Le.ren [0] rfl rfl (by decide) ⟨rfl, rfl, rfl, rfl, rfl, rfl, trivial⟩
    intro s13 d14 h15 hb12
    refine TC.seq ?_
    refine TC.region ?_
    refine vV (x := (.bool (decide (s13.2 < (a1.length : Int))))) (OpV.lss rfl rfl rfl) ?_
    refine WO.nil ?_
    refine seqN ?_
    refine TC.seq ?_
    refine TC.condS rfl (fun hc16 => ?_) (fun hc16 => ?_)
    · have h15 := ifF hc16 h15
      refine TC.exit ?_
      refine seqX ?_
      refine loopX h15 ?_
      obtain rfl := hb12 _ (Option.some.inj h15).symm
      refine bloE ?_
      refine cutN ?_
      exact Le.ren [0] rfl rfl (by decide) ⟨rfl, rfl, trivial⟩
    have h15 := ifT hc16 h15
    refine TC.skip ?_
    refine seqN ?_
    refine TC.seq ?_
    refine TC.block ?_
    refine TC.seq ?_
    refine TC.region ?_
    obtain ⟨x17, hx17, h15⟩ := bnd h15
    refine vV (x := (.rp [.int .i64 x17.Distance, .int .i64 x17.Category, .int .i64 x17.Rank, .int .i64 x17.Amount])) (OpV.ixM (e := Prize.cells) (v := x17) hx17 Tryz.runUnderlying28 Tryz.sizeOf117) ?_
    refine vV (x := (.agg (Prize.cells x17))) (OpV.loadA rfl Tryz.isAgg117 Tryz.sizeOf117 rfl Pts.rp rfl rfl) ?_
    refine vH (OpH.allocZ (v := (.agg [.int .i64 0, .int .i64 0, .int .i64 0, .int .i64 0])) Tryz.zeroValue117 (ZR.agg (ZL.cons ZR.int (ZL.cons ZR.int (ZL.cons ZR.int (ZL.cons ZR.int ZL.nil)))))) ?_
    refine WO.atV (x := (.ptr 1 0)) (H := [.map (menc (fun x => A.agg (typing_place.cells x)) A.bool s13.1), .cells 117 [.int .i64 0, .int .i64 0, .int .i64 0, .int .i64 0]]) rfl rfl ?_
    refine vU (OpU.store rfl rfl rfl Tryz.sizeOf117 rfl rfl rfl rfl rfl rfl rfl) ?_
    refine WO.atH (H := [.map (menc (fun x => A.agg (typing_place.cells x)) A.bool s13.1), .cells 117 (Prize.cells x17)]) rfl ?_
    refine WO.nil ?_
    refine seqN ?_
    refine TC.region ?_
    refine vV (x := (.map 0)) (OpV.move rfl rfl) ?_
    refine vV (x := (.fn (.func 106) [] [])) (OpV.move rfl rfl) ?_
    refine vV (x := (.agg (Prize.cells x17))) (OpV.loadA rfl Tryz.isAgg117 Tryz.sizeOf117 rfl (Pts.cells rfl rfl) rfl rfl) ?_
    obtain ⟨r18, hr18, h15⟩ := bnd h15
    refine WO.callD [] (OpC.clo Tryz.call106 rfl rfl rfl rfl) (ok_typing_numbers_11 _ _ _ hr18) ?_
    rintro _ _ ⟨rfl, rfl⟩
    refine WO.atV (x := (.agg (typing_place.cells r18))) (H := [.map (menc (fun x => A.agg (typing_place.cells x)) A.bool s13.1), .cells 117 (Prize.cells x17), .cells 162 (typing_place.cells r18)]) rfl rfl ?_
    obtain ⟨m19, hm19, h15⟩ := bnd h15
    refine vU (OpU.mput (ev := A.bool) (k := r18) (v := true) (l := s13.1) key_162 hm19 rfl Tryz.underlying192) ?_
    refine WO.atH (H := [.map (menc (fun x => A.agg (typing_place.cells x)) A.bool m19), .cells 117 (Prize.cells x17), .cells 162 (typing_place.cells r18)]) rfl ?_
    refine WO.nil ?_
    refine bloN ?_
    refine seqN ?_
    refine TC.region ?_
    refine vV (x := (.int .i64 (IntKind.i64.wrap (s13.2 + 1)))) (OpV.add rfl rfl rfl) ?_
    refine vV (x := (.int .i64 (IntKind.i64.wrap (s13.2 + 1)))) (OpV.move rfl rfl) ?_
    refine WO.nil ?_
    refine loopN h15 ?_
    exact Le.ren [0] rfl rfl (by decide) ⟨rfl, rfl, rfl, rfl, rfl, rfl, trivial⟩
  refine seqN (TC.le hle ?_)
  refine TC.seq ?_
  refine TC.region ?_
  refine vV (x := (.map 0)) (OpV.move rfl rfl) ?_
  refine vV (x := (.int .i64 (b10.length : Int))) (OpV.lenMap (l := b10) Tryz.underlying192 rfl) ?_
  refine vV (x := (.rsl 4 (List.map Prize.cells a1))) (OpV.move rfl rfl) ?_
  refine vV (x := (.int .i64 (a1.length : Int))) (OpV.lenM Tryz.runUnderlying28) ?_
  refine vV (x := (.bool ((b10.length : Int) == (a1.length : Int)))) (OpV.eql rfl rfl rfl) ?_
  refine vV (x := (.bool ((b10.length : Int) == (a1.length : Int)))) (OpV.assign rfl rfl) ?_
  refine WO.nil ?_
  refine seqN ?_
  refine TC.ret ?_
  obtain rfl := Option.some.inj h
  refine ⟨[(4, .bool ((b10.length : Int) == (a1.length : Int)))], [], _, ?_, ResOK.one rfl rfl, rfl, rfl⟩
  exact Le.ren [] rfl rfl (by decide) ⟨rfl, trivial⟩

/- stopwatch/typing.numbers -/
def F_typing_numbers (n : Nat) (a1 : Course) : Option Bool :=
  ((F_typing_all n a1.Mats).bind fun r30 => (bif r30 then (F_typing_all_3 n a1.Legs (IntKind.i64.wrap ((a1.Mats.length : Int) - 1))).bind fun r32 => (bif r32 then (F_typing_once n a1.Legs).bind fun r34 => (bif r34 then (F_typing_all_5 n a1.Distances (IntKind.i64.wrap ((a1.Mats.length : Int) - 1))).bind fun r36 => (bif r36 then (F_typing_all_11 n a1.Waves).bind fun r38 => (bif r38 then (F_typing_all_13 n a1.Offences).bind fun r40 => (bif r40 then (F_typing_all_15 n a1.Categories).bind fun r42 => (bif r42 then (F_typing_all_17 n a1.Prizes a1).bind fun r44 => (bif r44.2 then (F_typing_once_2 n r44.1.Prizes).bind fun r46 => (bif r46 then (F_typing_within n 0 16 [a1.Faults.Misses, a1.Faults.Strays]).bind fun r48 => (bif r48 then (F_typing_within n 0 4294967296 [a1.Faults.Window, a1.Faults.Residual]).bind fun r50 => (bif r50 then (F_typing_within n 0 100000 [a1.Faults.Drift]).bind fun r52 => (bif r52 then (F_typing_within n 0 1125899906842624 [r44.1.Fee]).bind fun r54 => (bif r54 then (F_typing_within n 0 1099511627776 [r44.1.Deadline]).bind fun r56 => some r56 else some false) else some false) else some false) else some false) else some false) else some false) else some false) else some false) else some false) else some false) else some false) else some false) else some false) : Option Bool).bind fun b28 => some b28
theorem ok_typing_numbers (n : Nat) (a1 : Course) (r : Bool) (h : F_typing_numbers n a1 = some r) :
    C Tryz.prog 45 [.agg (Course.cells a1)] [] (fun a H => a = .bool r ∧ H = []) := by
  refine C.of_body Tryz.func45 rfl rfl rfl ?_
  refine TC.seq ?_
  refine TC.region ?_
  refine vH (OpH.box rfl rfl rfl rfl rfl) ?_
  refine WO.atV (x := (.ptr 0 0)) (H := [.cells 33 (Course.cells a1)]) rfl rfl ?_
  refine vV (x := (.bool false)) (OpV.assign rfl rfl) ?_
  refine WO.nil ?_
  refine seqN ?_
  refine TC.seq ?_
  refine TC.region ?_
  refine vV (x := (.ptr 0 1)) (OpV.fieldP fa_33_1 rfl rfl) ?_
  refine vV (x := (.rsl 2 (List.map Mat.cells a1.Mats))) (OpV.load rfl Tryz.isAgg22 rfl (Pts.cells rfl rfl)) ?_
  refine vV (x := (.int .i64 (a1.Mats.length : Int))) (OpV.lenM Tryz.runUnderlying22) ?_
  refine vV (x := (.int .i64 (IntKind.i64.wrap ((a1.Mats.length : Int) - 1)))) (OpV.sub rfl rfl rfl) ?_
  refine vH (OpH.allocZ (v := (.int .i64 0)) Tryz.zeroValue3 ZR.int) ?_
  refine WO.atV (x := (.ptr 1 0)) (H := [.cells 33 (Course.cells a1), .cells 3 [.int .i64 0]]) rfl rfl ?_
  refine vU (OpU.store rfl rfl rfl Tryz.sizeOf3 rfl rfl rfl rfl rfl rfl rfl) ?_
  refine WO.atH (H := [.cells 33 (Course.cells a1), .cells 3 [.int .i64 (IntKind.i64.wrap ((a1.Mats.length : Int) - 1))]]) rfl ?_
  refine WO.nil ?_
  refine seqN ?_
  refine TC.seq ?_
  refine TC.region ?_
  refine vH (OpH.allocZ (v := .nilf) Tryz.zeroValue141 ZR.nilf) ?_
  refine WO.atV (x := (.ptr 2 0)) (H := [.cells 33 (Course.cells a1), .cells 3 [.int .i64 (IntKind.i64.wrap ((a1.Mats.length : Int) - 1))], .cells 141 [.nilf]]) rfl rfl ?_
  refine WO.nil ?_
  refine seqN ?_
  refine TC.seq ?_
  refine TC.region ?_
  refine vV (x := (.fn (.func 85) [] [.ptr 1 0, .ptr 2 0])) (OpV.makeFunc (first := []) (cap := [.tmp 3, .tmp 4]) rfl rfl rfl) ?_
  refine vU (OpU.store rfl rfl rfl Tryz.sizeOf141 rfl rfl rfl rfl rfl rfl rfl) ?_
  refine WO.atH (H := [.cells 33 (Course.cells a1), .cells 3 [.int .i64 (IntKind.i64.wrap ((a1.Mats.length : Int) - 1))], .cells 141 [.fn (.func 85) [] [.ptr 1 0, .ptr 2 0]]]) rfl ?_
  refine WO.nil ?_
  refine seqN ?_
  refine TC.seq ?_
  refine TC.region ?_
  refine vV (x := (.fn (.func 88) [] [.ptr 1 0])) (OpV.makeFunc (first := []) (cap := [.tmp 3]) rfl rfl rfl) ?_
  refine vH (OpH.allocZ (v := .nilf) Tryz.zeroValue144 ZR.nilf) ?_
  refine WO.atV (x := (.ptr 3 0)) (H := [.cells 33 (Course.cells a1), .cells 3 [.int .i64 (IntKind.i64.wrap ((a1.Mats.length : Int) - 1))], .cells 141 [.fn (.func 85) [] [.ptr 1 0, .ptr 2 0]], .cells 144 [.nilf]]) rfl rfl ?_
  refine vU (OpU.store rfl rfl rfl Tryz.sizeOf144 rfl rfl rfl rfl rfl rfl rfl) ?_
  refine WO.atH (H := [.cells 33 (Course.cells a1), .cells 3 [.int .i64 (IntKind.i64.wrap ((a1.Mats.length : Int) - 1))], .cells 141 [.fn (.func 85) [] [.ptr 1 0, .ptr 2 0]], .cells 144 [.fn (.func 88) [] [.ptr 1 0]]]) rfl ?_
  refine WO.nil ?_
  refine seqN ?_
  refine TC.seq ?_
  refine TC.region ?_
  refine vV (x := (.fn (.func 89) [] [.ptr 1 0, .ptr 2 0, .ptr 3 0])) (OpV.makeFunc (first := []) (cap := [.tmp 3, .tmp 4, .tmp 5]) rfl rfl rfl) ?_
  refine vV (x := (.fn (.func 89) [] [.ptr 1 0, .ptr 2 0, .ptr 3 0])) (OpV.assign rfl rfl) ?_
  refine WO.nil ?_
  refine seqN ?_
  refine TC.seq ?_
  refine TC.region ?_
  refine vV (x := (.fn (.func 91) [] [.ptr 1 0])) (OpV.makeFunc (first := []) (cap := [.tmp 3]) rfl rfl rfl) ?_
  refine vV (x := (.fn (.func 91) [] [.ptr 1 0])) (OpV.assign rfl rfl) ?_
  refine WO.nil ?_
  refine seqN ?_
  refine TC.seq ?_
  refine TC.region ?_
  refine vV (x := (.fn (.func 92) [] [])) (OpV.assign rfl rfl) ?_
  refine WO.nil ?_
  refine seqN ?_
  refine TC.seq ?_
  refine TC.region ?_
  refine vV (x := (.fn (.func 93) [] [.ptr 0 0])) (OpV.makeFunc (first := []) (cap := [.tmp 1]) rfl rfl rfl) ?_
  refine vV (x := (.fn (.func 93) [] [.ptr 0 0])) (OpV.assign rfl rfl) ?_
  refine WO.nil ?_
  refine seqN ?_
  refine TC.seq ?_
  refine TC.region ?_
  refine vV (x := (.ptr 0 9)) (OpV.fieldP fa_33_9 rfl rfl) ?_
  refine vV (x := (.agg (Faults.cells a1.Faults))) (OpV.loadA rfl Tryz.isAgg31 Tryz.sizeOf31 rfl (Pts.cells rfl rfl) rfl rfl) ?_
  refine vH (OpH.allocZ (v := (.agg [.int .i64 0, .int .i64 0, .int .i64 0, .int .i64 0, .int .i64 0])) Tryz.zeroValue31 (ZR.agg (ZL.cons ZR.int (ZL.cons ZR.int (ZL.cons ZR.int (ZL.cons ZR.int (ZL.cons ZR.int ZL.nil))))))) ?_
  refine WO.atV (x := (.ptr 4 0)) (H := [.cells 33 (Course.cells a1), .cells 3 [.int .i64 (IntKind.i64.wrap ((a1.Mats.length : Int) - 1))], .cells 141 [.fn (.func 85) [] [.ptr 1 0, .ptr 2 0]], .cells 144 [.fn (.func 88) [] [.ptr 1 0]], .cells 31 [.int .i64 0, .int .i64 0, .int .i64 0, .int .i64 0, .int .i64 0]]) rfl rfl ?_
  refine vU (OpU.store rfl rfl rfl Tryz.sizeOf31 rfl rfl rfl rfl rfl rfl rfl) ?_
  refine WO.atH (H := [.cells 33 (Course.cells a1), .cells 3 [.int .i64 (IntKind.i64.wrap ((a1.Mats.length : Int) - 1))], .cells 141 [.fn (.func 85) [] [.ptr 1 0, .ptr 2 0]], .cells 144 [.fn (.func 88) [] [.ptr 1 0]], .cells 31 (Faults.cells a1.Faults)]) rfl ?_
  refine WO.nil ?_
  refine seqN ?_
  refine TC.seq ?_
  obtain ⟨b28, h29, h⟩ := bnd h
  refine TC.cut ([(2, .bool b28)]) ([]) ?_ (fun env H hle => ?_)
  ·
    refine TC.region ?_
    refine vV (x := (.ptr 0 1)) (OpV.fieldP fa_33_1 rfl rfl) ?_
    refine vV (x := (.rsl 2 (List.map Mat.cells a1.Mats))) (OpV.load rfl Tryz.isAgg22 rfl (Pts.cells rfl rfl)) ?_
    obtain ⟨r30, hr30, h29⟩ := bnd h29
    refine WO.callD [] (OpC.fn Tryz.call94 rfl rfl rfl) (ok_typing_all _ _ _ hr30) ?_
    rintro _ _ ⟨rfl, rfl⟩
    refine WO.atV (x := (.bool r30)) (H := [.cells 33 (Course.cells a1), .cells 3 [.int .i64 (IntKind.i64.wrap ((a1.Mats.length : Int) - 1))], .cells 141 [.fn (.func 85) [] [.ptr 1 0, .ptr 2 0]], .cells 144 [.fn (.func 88) [] [.ptr 1 0]], .cells 31 (Faults.cells a1.Faults)]) rfl rfl ?_
    refine vV (x := (.bool r30)) (OpV.move rfl rfl) ?_
    rcases bTF (r30) with hg31 | hg31
    · have h29 := ifT hg31 h29
      refine vV (x := (.ptr 0 2)) (OpV.fieldP fa_33_2 rfl rfl) ?_ (gT hg31)
      refine vV (x := (.rsl 4 (List.map Leg.cells a1.Legs))) (OpV.load rfl Tryz.isAgg23 rfl (Pts.cells rfl rfl)) ?_ (gT hg31)
      refine vV (x := (.fn (.func 91) [] [.ptr 1 0])) (OpV.move rfl rfl) ?_ (gT hg31)
      obtain ⟨r32, hr32, h29⟩ := bnd h29
      refine WO.callD [1] (OpC.fn Tryz.call96 rfl rfl rfl) (ok_typing_all_3 _ _ _ _ hr32) ?_ (hg := (gT hg31))
      rintro _ _ ⟨rfl, rfl⟩
      refine WO.atV (x := (.bool r32)) (H := [.cells 33 (Course.cells a1), .cells 3 [.int .i64 (IntKind.i64.wrap ((a1.Mats.length : Int) - 1))], .cells 141 [.fn (.func 85) [] [.ptr 1 0, .ptr 2 0]], .cells 144 [.fn (.func 88) [] [.ptr 1 0]], .cells 31 (Faults.cells a1.Faults)]) rfl rfl ?_
      refine vV (x := (.bool r32)) (OpV.pickT hg31) ?_
      refine vV (x := (.bool r32)) (OpV.move rfl rfl) ?_
      rcases bTF (r32) with hg33 | hg33
      · have h29 := ifT hg33 h29
        refine vV (x := (.ptr 0 2)) (OpV.fieldP fa_33_2 rfl rfl) ?_ (gT hg33)
        refine vV (x := (.rsl 4 (List.map Leg.cells a1.Legs))) (OpV.load rfl Tryz.isAgg23 rfl (Pts.cells rfl rfl)) ?_ (gT hg33)
        obtain ⟨r34, hr34, h29⟩ := bnd h29
        refine WO.callD [] (OpC.fn Tryz.call97 rfl rfl rfl) (ok_typing_once _ _ _ hr34) ?_ (hg := (gT hg33))
        rintro _ _ ⟨rfl, rfl⟩
        refine WO.atV (x := (.bool r34)) (H := [.cells 33 (Course.cells a1), .cells 3 [.int .i64 (IntKind.i64.wrap ((a1.Mats.length : Int) - 1))], .cells 141 [.fn (.func 85) [] [.ptr 1 0, .ptr 2 0]], .cells 144 [.fn (.func 88) [] [.ptr 1 0]], .cells 31 (Faults.cells a1.Faults)]) rfl rfl ?_
        refine vV (x := (.bool r34)) (OpV.pickT hg33) ?_
        refine vV (x := (.bool r34)) (OpV.move rfl rfl) ?_
        rcases bTF (r34) with hg35 | hg35
        · have h29 := ifT hg35 h29
          refine vV (x := (.ptr 0 3)) (OpV.fieldP fa_33_3 rfl rfl) ?_ (gT hg35)
          refine vV (x := (.rsl 5 (List.map Distance.cells a1.Distances))) (OpV.load rfl Tryz.isAgg24 rfl (Pts.cells rfl rfl)) ?_ (gT hg35)
          refine vV (x := (.fn (.func 89) [] [.ptr 1 0, .ptr 2 0, .ptr 3 0])) (OpV.move rfl rfl) ?_ (gT hg35)
          obtain ⟨r36, hr36, h29⟩ := bnd h29
          refine WO.callD [1, 2, 3] (OpC.fn Tryz.call47 rfl rfl rfl) (ok_typing_all_5 _ _ _ _ hr36) ?_ (hg := (gT hg35))
          rintro _ _ ⟨rfl, rfl⟩
          refine WO.atV (x := (.bool r36)) (H := [.cells 33 (Course.cells a1), .cells 3 [.int .i64 (IntKind.i64.wrap ((a1.Mats.length : Int) - 1))], .cells 141 [.fn (.func 85) [] [.ptr 1 0, .ptr 2 0]], .cells 144 [.fn (.func 88) [] [.ptr 1 0]], .cells 31 (Faults.cells a1.Faults)]) rfl rfl ?_
          refine vV (x := (.bool r36)) (OpV.pickT hg35) ?_
          refine vV (x := (.bool r36)) (OpV.move rfl rfl) ?_
          rcases bTF (r36) with hg37 | hg37
          · have h29 := ifT hg37 h29
            refine vV (x := (.ptr 0 4)) (OpV.fieldP fa_33_4 rfl rfl) ?_ (gT hg37)
            refine vV (x := (.rsl 2 (List.map Wave.cells a1.Waves))) (OpV.load rfl Tryz.isAgg25 rfl (Pts.cells rfl rfl)) ?_ (gT hg37)
            obtain ⟨r38, hr38, h29⟩ := bnd h29
            refine WO.callD [] (OpC.fn Tryz.call99 rfl rfl rfl) (ok_typing_all_11 _ _ _ hr38) ?_ (hg := (gT hg37))
            rintro _ _ ⟨rfl, rfl⟩
            refine WO.atV (x := (.bool r38)) (H := [.cells 33 (Course.cells a1), .cells 3 [.int .i64 (IntKind.i64.wrap ((a1.Mats.length : Int) - 1))], .cells 141 [.fn (.func 85) [] [.ptr 1 0, .ptr 2 0]], .cells 144 [.fn (.func 88) [] [.ptr 1 0]], .cells 31 (Faults.cells a1.Faults)]) rfl rfl ?_
            refine vV (x := (.bool r38)) (OpV.pickT hg37) ?_
            refine vV (x := (.bool r38)) (OpV.move rfl rfl) ?_
            rcases bTF (r38) with hg39 | hg39
            · have h29 := ifT hg39 h29
              refine vV (x := (.ptr 0 5)) (OpV.fieldP fa_33_5 rfl rfl) ?_ (gT hg39)
              refine vV (x := (.rsl 4 (List.map Offence.cells a1.Offences))) (OpV.load rfl Tryz.isAgg26 rfl (Pts.cells rfl rfl)) ?_ (gT hg39)
              refine vV (x := (.fn (.func 92) [] [])) (OpV.move rfl rfl) ?_ (gT hg39)
              obtain ⟨r40, hr40, h29⟩ := bnd h29
              refine WO.callD [] (OpC.fn Tryz.call101 rfl rfl rfl) (ok_typing_all_13 _ _ _ hr40) ?_ (hg := (gT hg39))
              rintro _ _ ⟨rfl, rfl⟩
              refine WO.atV (x := (.bool r40)) (H := [.cells 33 (Course.cells a1), .cells 3 [.int .i64 (IntKind.i64.wrap ((a1.Mats.length : Int) - 1))], .cells 141 [.fn (.func 85) [] [.ptr 1 0, .ptr 2 0]], .cells 144 [.fn (.func 88) [] [.ptr 1 0]], .cells 31 (Faults.cells a1.Faults)]) rfl rfl ?_
              refine vV (x := (.bool r40)) (OpV.pickT hg39) ?_
              refine vV (x := (.bool r40)) (OpV.move rfl rfl) ?_
              rcases bTF (r40) with hg41 | hg41
              · have h29 := ifT hg41 h29
                refine vV (x := (.ptr 0 6)) (OpV.fieldP fa_33_6 rfl rfl) ?_ (gT hg41)
                refine vV (x := (.rsl 3 (List.map Category.cells a1.Categories))) (OpV.load rfl Tryz.isAgg27 rfl (Pts.cells rfl rfl)) ?_ (gT hg41)
                obtain ⟨r42, hr42, h29⟩ := bnd h29
                refine WO.callD [] (OpC.fn Tryz.call102 rfl rfl rfl) (ok_typing_all_15 _ _ _ hr42) ?_ (hg := (gT hg41))
                rintro _ _ ⟨rfl, rfl⟩
                refine WO.atV (x := (.bool r42)) (H := [.cells 33 (Course.cells a1), .cells 3 [.int .i64 (IntKind.i64.wrap ((a1.Mats.length : Int) - 1))], .cells 141 [.fn (.func 85) [] [.ptr 1 0, .ptr 2 0]], .cells 144 [.fn (.func 88) [] [.ptr 1 0]], .cells 31 (Faults.cells a1.Faults)]) rfl rfl ?_
                refine vV (x := (.bool r42)) (OpV.pickT hg41) ?_
                refine vV (x := (.bool r42)) (OpV.move rfl rfl) ?_
                rcases bTF (r42) with hg43 | hg43
                · have h29 := ifT hg43 h29
                  refine vV (x := (.ptr 0 7)) (OpV.fieldP fa_33_7 rfl rfl) ?_ (gT hg43)
                  refine vV (x := (.rsl 4 (List.map Prize.cells a1.Prizes))) (OpV.load rfl Tryz.isAgg28 rfl (Pts.cells rfl rfl)) ?_ (gT hg43)
                  refine vV (x := (.fn (.func 93) [] [.ptr 0 0])) (OpV.move rfl rfl) ?_ (gT hg43)
                  obtain ⟨r44, hr44, h29⟩ := bnd h29
                  refine WO.callD [0] (OpC.fn Tryz.call104 rfl rfl rfl) (ok_typing_all_17 _ _ _ _ hr44) ?_ (hg := (gT hg43))
                  rintro _ _ ⟨rfl, rfl⟩
                  refine WO.atV (x := (.bool r44.2)) (H := [.cells 33 (Course.cells r44.1), .cells 3 [.int .i64 (IntKind.i64.wrap ((a1.Mats.length : Int) - 1))], .cells 141 [.fn (.func 85) [] [.ptr 1 0, .ptr 2 0]], .cells 144 [.fn (.func 88) [] [.ptr 1 0]], .cells 31 (Faults.cells a1.Faults)]) rfl rfl ?_
                  refine vV (x := (.bool r44.2)) (OpV.pickT hg43) ?_
                  refine vV (x := (.bool r44.2)) (OpV.move rfl rfl) ?_
                  rcases bTF (r44.2) with hg45 | hg45
                  · have h29 := ifT hg45 h29
                    refine vV (x := (.ptr 0 7)) (OpV.fieldP fa_33_7 rfl rfl) ?_ (gT hg45)
                    refine vV (x := (.rsl 4 (List.map Prize.cells r44.1.Prizes))) (OpV.load rfl Tryz.isAgg28 rfl (Pts.cells rfl rfl)) ?_ (gT hg45)
                    obtain ⟨r46, hr46, h29⟩ := bnd h29
                    refine WO.callD [] (OpC.fn Tryz.call105 rfl rfl rfl) (ok_typing_once_2 _ _ _ hr46) ?_ (hg := (gT hg45))
                    rintro _ _ ⟨rfl, rfl⟩
                    refine WO.atV (x := (.bool r46)) (H := [.cells 33 (Course.cells r44.1), .cells 3 [.int .i64 (IntKind.i64.wrap ((a1.Mats.length : Int) - 1))], .cells 141 [.fn (.func 85) [] [.ptr 1 0, .ptr 2 0]], .cells 144 [.fn (.func 88) [] [.ptr 1 0]], .cells 31 (Faults.cells a1.Faults)]) rfl rfl ?_
                    refine vV (x := (.bool r46)) (OpV.pickT hg45) ?_
                    refine vV (x := (.bool r46)) (OpV.move rfl rfl) ?_
                    rcases bTF (r46) with hg47 | hg47
                    · have h29 := ifT hg47 h29
                      refine vV (x := (.ptr 4 0)) (OpV.fieldP fa_31_0 rfl rfl) ?_ (gT hg47)
                      refine vV (x := (.int .i64 a1.Faults.Misses)) (OpV.load rfl Tryz.isAgg3 rfl (Pts.cells rfl rfl)) ?_ (gT hg47)
                      refine vV (x := (.ptr 4 1)) (OpV.fieldP fa_31_1 rfl rfl) ?_ (gT hg47)
                      refine vV (x := (.int .i64 a1.Faults.Strays)) (OpV.load rfl Tryz.isAgg3 rfl (Pts.cells rfl rfl)) ?_ (gT hg47)
                      refine vH (OpH.lit (xs := [.tmp 71, .tmp 73]) (es := List.map (encI .i64) [a1.Faults.Misses, a1.Faults.Strays]) el_39 rfl rfl rfl rfl rfl ⟨rfl, rfl, trivial⟩ rfl rfl) ?_ (gT hg47)
                      refine WO.atV (x := (.osl 5 0 ([a1.Faults.Misses, a1.Faults.Strays].length) 1)) (H := [.cells 33 (Course.cells r44.1), .cells 3 [.int .i64 (IntKind.i64.wrap ((a1.Mats.length : Int) - 1))], .cells 141 [.fn (.func 85) [] [.ptr 1 0, .ptr 2 0]], .cells 144 [.fn (.func 88) [] [.ptr 1 0]], .cells 31 (Faults.cells a1.Faults), .row 3 1 (List.map (encI .i64) [a1.Faults.Misses, a1.Faults.Strays])]) rfl rfl ?_
                      obtain ⟨r48, hr48, h29⟩ := bnd h29
                      refine WO.callB (OpC.fn Tryz.call86 rfl rfl rfl) (LookL.cons rfl (.inl ⟨rfl, rfl⟩) (LookL.cons rfl (.inl ⟨rfl, rfl⟩) (LookL.cons rfl (.inr ⟨_, _, _, _, _, rfl, rfl, List.length_map .., rfl⟩) LookL.nil))) (ok_typing_within _ _ _ _ _ hr48) (by rintro _ _ ⟨rfl, rfl⟩; rfl) ?_ (gT hg47)
                      rintro _ _ ⟨rfl, rfl⟩
                      refine WO.atV (x := (.bool r48)) (H := [.cells 33 (Course.cells r44.1), .cells 3 [.int .i64 (IntKind.i64.wrap ((a1.Mats.length : Int) - 1))], .cells 141 [.fn (.func 85) [] [.ptr 1 0, .ptr 2 0]], .cells 144 [.fn (.func 88) [] [.ptr 1 0]], .cells 31 (Faults.cells a1.Faults), .row 3 1 (List.map (encI .i64) [a1.Faults.Misses, a1.Faults.Strays])]) rfl rfl ?_
                      refine vV (x := (.bool r48)) (OpV.pickT hg47) ?_
                      refine vV (x := (.bool r48)) (OpV.move rfl rfl) ?_
                      rcases bTF (r48) with hg49 | hg49
                      · have h29 := ifT hg49 h29
                        refine vV (x := (.ptr 4 2)) (OpV.fieldP fa_31_2 rfl rfl) ?_ (gT hg49)
                        refine vV (x := (.int .i64 a1.Faults.Window)) (OpV.load rfl Tryz.isAgg3 rfl (Pts.cells rfl rfl)) ?_ (gT hg49)
                        refine vV (x := (.ptr 4 3)) (OpV.fieldP fa_31_3 rfl rfl) ?_ (gT hg49)
                        refine vV (x := (.int .i64 a1.Faults.Residual)) (OpV.load rfl Tryz.isAgg3 rfl (Pts.cells rfl rfl)) ?_ (gT hg49)
                        refine vH (OpH.lit (xs := [.tmp 79, .tmp 81]) (es := List.map (encI .i64) [a1.Faults.Window, a1.Faults.Residual]) el_39 rfl rfl rfl rfl rfl ⟨rfl, rfl, trivial⟩ rfl rfl) ?_ (gT hg49)
                        refine WO.atV (x := (.osl 6 0 ([a1.Faults.Window, a1.Faults.Residual].length) 1)) (H := [.cells 33 (Course.cells r44.1), .cells 3 [.int .i64 (IntKind.i64.wrap ((a1.Mats.length : Int) - 1))], .cells 141 [.fn (.func 85) [] [.ptr 1 0, .ptr 2 0]], .cells 144 [.fn (.func 88) [] [.ptr 1 0]], .cells 31 (Faults.cells a1.Faults), .row 3 1 (List.map (encI .i64) [a1.Faults.Misses, a1.Faults.Strays]), .row 3 1 (List.map (encI .i64) [a1.Faults.Window, a1.Faults.Residual])]) rfl rfl ?_
                        obtain ⟨r50, hr50, h29⟩ := bnd h29
                        refine WO.callB (OpC.fn Tryz.call86 rfl rfl rfl) (LookL.cons rfl (.inl ⟨rfl, rfl⟩) (LookL.cons rfl (.inl ⟨rfl, rfl⟩) (LookL.cons rfl (.inr ⟨_, _, _, _, _, rfl, rfl, List.length_map .., rfl⟩) LookL.nil))) (ok_typing_within _ _ _ _ _ hr50) (by rintro _ _ ⟨rfl, rfl⟩; rfl) ?_ (gT hg49)
                        rintro _ _ ⟨rfl, rfl⟩
                        refine WO.atV (x := (.bool r50)) (H := [.cells 33 (Course.cells r44.1), .cells 3 [.int .i64 (IntKind.i64.wrap ((a1.Mats.length : Int) - 1))], .cells 141 [.fn (.func 85) [] [.ptr 1 0, .ptr 2 0]], .cells 144 [.fn (.func 88) [] [.ptr 1 0]], .cells 31 (Faults.cells a1.Faults), .row 3 1 (List.map (encI .i64) [a1.Faults.Misses, a1.Faults.Strays]), .row 3 1 (List.map (encI .i64) [a1.Faults.Window, a1.Faults.Residual])]) rfl rfl ?_
                        refine vV (x := (.bool r50)) (OpV.pickT hg49) ?_
                        refine vV (x := (.bool r50)) (OpV.move rfl rfl) ?_
                        rcases bTF (r50) with hg51 | hg51
                        · have h29 := ifT hg51 h29
                          refine vV (x := (.ptr 4 4)) (OpV.fieldP fa_31_4 rfl rfl) ?_ (gT hg51)
                          refine vV (x := (.int .i64 a1.Faults.Drift)) (OpV.load rfl Tryz.isAgg3 rfl (Pts.cells rfl rfl)) ?_ (gT hg51)
                          refine vH (OpH.lit (xs := [.tmp 87]) (es := List.map (encI .i64) [a1.Faults.Drift]) el_39 rfl rfl rfl rfl rfl ⟨rfl, trivial⟩ rfl rfl) ?_ (gT hg51)
                          refine WO.atV (x := (.osl 7 0 ([a1.Faults.Drift].length) 1)) (H := [.cells 33 (Course.cells r44.1), .cells 3 [.int .i64 (IntKind.i64.wrap ((a1.Mats.length : Int) - 1))], .cells 141 [.fn (.func 85) [] [.ptr 1 0, .ptr 2 0]], .cells 144 [.fn (.func 88) [] [.ptr 1 0]], .cells 31 (Faults.cells a1.Faults), .row 3 1 (List.map (encI .i64) [a1.Faults.Misses, a1.Faults.Strays]), .row 3 1 (List.map (encI .i64) [a1.Faults.Window, a1.Faults.Residual]), .row 3 1 (List.map (encI .i64) [a1.Faults.Drift])]) rfl rfl ?_
                          obtain ⟨r52, hr52, h29⟩ := bnd h29
                          refine WO.callB (OpC.fn Tryz.call86 rfl rfl rfl) (LookL.cons rfl (.inl ⟨rfl, rfl⟩) (LookL.cons rfl (.inl ⟨rfl, rfl⟩) (LookL.cons rfl (.inr ⟨_, _, _, _, _, rfl, rfl, List.length_map .., rfl⟩) LookL.nil))) (ok_typing_within _ _ _ _ _ hr52) (by rintro _ _ ⟨rfl, rfl⟩; rfl) ?_ (gT hg51)
                          rintro _ _ ⟨rfl, rfl⟩
                          refine WO.atV (x := (.bool r52)) (H := [.cells 33 (Course.cells r44.1), .cells 3 [.int .i64 (IntKind.i64.wrap ((a1.Mats.length : Int) - 1))], .cells 141 [.fn (.func 85) [] [.ptr 1 0, .ptr 2 0]], .cells 144 [.fn (.func 88) [] [.ptr 1 0]], .cells 31 (Faults.cells a1.Faults), .row 3 1 (List.map (encI .i64) [a1.Faults.Misses, a1.Faults.Strays]), .row 3 1 (List.map (encI .i64) [a1.Faults.Window, a1.Faults.Residual]), .row 3 1 (List.map (encI .i64) [a1.Faults.Drift])]) rfl rfl ?_
                          refine vV (x := (.bool r52)) (OpV.pickT hg51) ?_
                          refine vV (x := (.bool r52)) (OpV.move rfl rfl) ?_
                          rcases bTF (r52) with hg53 | hg53
                          · have h29 := ifT hg53 h29
                            refine vV (x := (.ptr 0 14)) (OpV.fieldP fa_33_10 rfl rfl) ?_ (gT hg53)
                            refine vV (x := (.int .i64 r44.1.Fee)) (OpV.load rfl Tryz.isAgg3 rfl (Pts.cells rfl rfl)) ?_ (gT hg53)
                            refine vH (OpH.lit (xs := [.tmp 93]) (es := List.map (encI .i64) [r44.1.Fee]) el_39 rfl rfl rfl rfl rfl ⟨rfl, trivial⟩ rfl rfl) ?_ (gT hg53)
                            refine WO.atV (x := (.osl 8 0 ([r44.1.Fee].length) 1)) (H := [.cells 33 (Course.cells r44.1), .cells 3 [.int .i64 (IntKind.i64.wrap ((a1.Mats.length : Int) - 1))], .cells 141 [.fn (.func 85) [] [.ptr 1 0, .ptr 2 0]], .cells 144 [.fn (.func 88) [] [.ptr 1 0]], .cells 31 (Faults.cells a1.Faults), .row 3 1 (List.map (encI .i64) [a1.Faults.Misses, a1.Faults.Strays]), .row 3 1 (List.map (encI .i64) [a1.Faults.Window, a1.Faults.Residual]), .row 3 1 (List.map (encI .i64) [a1.Faults.Drift]), .row 3 1 (List.map (encI .i64) [r44.1.Fee])]) rfl rfl ?_
                            obtain ⟨r54, hr54, h29⟩ := bnd h29
                            refine WO.callB (OpC.fn Tryz.call86 rfl rfl rfl) (LookL.cons rfl (.inl ⟨rfl, rfl⟩) (LookL.cons rfl (.inl ⟨rfl, rfl⟩) (LookL.cons rfl (.inr ⟨_, _, _, _, _, rfl, rfl, List.length_map .., rfl⟩) LookL.nil))) (ok_typing_within _ _ _ _ _ hr54) (by rintro _ _ ⟨rfl, rfl⟩; rfl) ?_ (gT hg53)
                            rintro _ _ ⟨rfl, rfl⟩
                            refine WO.atV (x := (.bool r54)) (H := [.cells 33 (Course.cells r44.1), .cells 3 [.int .i64 (IntKind.i64.wrap ((a1.Mats.length : Int) - 1))], .cells 141 [.fn (.func 85) [] [.ptr 1 0, .ptr 2 0]], .cells 144 [.fn (.func 88) [] [.ptr 1 0]], .cells 31 (Faults.cells a1.Faults), .row 3 1 (List.map (encI .i64) [a1.Faults.Misses, a1.Faults.Strays]), .row 3 1 (List.map (encI .i64) [a1.Faults.Window, a1.Faults.Residual]), .row 3 1 (List.map (encI .i64) [a1.Faults.Drift]), .row 3 1 (List.map (encI .i64) [r44.1.Fee])]) rfl rfl ?_
                            refine vV (x := (.bool r54)) (OpV.pickT hg53) ?_
                            refine vV (x := (.bool r54)) (OpV.move rfl rfl) ?_
                            rcases bTF (r54) with hg55 | hg55
                            · have h29 := ifT hg55 h29
                              refine vV (x := (.ptr 0 15)) (OpV.fieldP fa_33_11 rfl rfl) ?_ (gT hg55)
                              refine vV (x := (.int .i64 r44.1.Deadline)) (OpV.load rfl Tryz.isAgg3 rfl (Pts.cells rfl rfl)) ?_ (gT hg55)
                              refine vH (OpH.lit (xs := [.tmp 99]) (es := List.map (encI .i64) [r44.1.Deadline]) el_39 rfl rfl rfl rfl rfl ⟨rfl, trivial⟩ rfl rfl) ?_ (gT hg55)
                              refine WO.atV (x := (.osl 9 0 ([r44.1.Deadline].length) 1)) (H := [.cells 33 (Course.cells r44.1), .cells 3 [.int .i64 (IntKind.i64.wrap ((a1.Mats.length : Int) - 1))], .cells 141 [.fn (.func 85) [] [.ptr 1 0, .ptr 2 0]], .cells 144 [.fn (.func 88) [] [.ptr 1 0]], .cells 31 (Faults.cells a1.Faults), .row 3 1 (List.map (encI .i64) [a1.Faults.Misses, a1.Faults.Strays]), .row 3 1 (List.map (encI .i64) [a1.Faults.Window, a1.Faults.Residual]), .row 3 1 (List.map (encI .i64) [a1.Faults.Drift]), .row 3 1 (List.map (encI .i64) [r44.1.Fee]), .row 3 1 (List.map (encI .i64) [r44.1.Deadline])]) rfl rfl ?_
                              obtain ⟨r56, hr56, h29⟩ := bnd h29
                              refine WO.callB (OpC.fn Tryz.call86 rfl rfl rfl) (LookL.cons rfl (.inl ⟨rfl, rfl⟩) (LookL.cons rfl (.inl ⟨rfl, rfl⟩) (LookL.cons rfl (.inr ⟨_, _, _, _, _, rfl, rfl, List.length_map .., rfl⟩) LookL.nil))) (ok_typing_within _ _ _ _ _ hr56) (by rintro _ _ ⟨rfl, rfl⟩; rfl) ?_ (gT hg55)
                              rintro _ _ ⟨rfl, rfl⟩
                              refine WO.atV (x := (.bool r56)) (H := [.cells 33 (Course.cells r44.1), .cells 3 [.int .i64 (IntKind.i64.wrap ((a1.Mats.length : Int) - 1))], .cells 141 [.fn (.func 85) [] [.ptr 1 0, .ptr 2 0]], .cells 144 [.fn (.func 88) [] [.ptr 1 0]], .cells 31 (Faults.cells a1.Faults), .row 3 1 (List.map (encI .i64) [a1.Faults.Misses, a1.Faults.Strays]), .row 3 1 (List.map (encI .i64) [a1.Faults.Window, a1.Faults.Residual]), .row 3 1 (List.map (encI .i64) [a1.Faults.Drift]), .row 3 1 (List.map (encI .i64) [r44.1.Fee]), .row 3 1 (List.map (encI .i64) [r44.1.Deadline])]) rfl rfl ?_
                              refine vV (x := (.bool r56)) (OpV.pickT hg55) ?_
                              refine vV (x := (.bool r56)) (OpV.assign rfl rfl) ?_
                              refine WO.nil ?_
                              obtain rfl := Option.some.inj h29
                              refine cutN ?_
                              exact Le.ren [] rfl rfl (by decide) ⟨rfl, trivial⟩
                            · have h29 := ifF hg55 h29
                              refine vS (gF hg55) ?_
                              refine vS (gF hg55) ?_
                              refine vS (gF hg55) ?_
                              refine vS (gF hg55) ?_
                              refine vV (x := (.bool false)) (OpV.pickF hg55) ?_
                              refine vV (x := (.bool false)) (OpV.assign rfl rfl) ?_
                              refine WO.nil ?_
                              obtain rfl := Option.some.inj h29
                              refine cutN ?_
                              exact Le.ren [] rfl rfl (by decide) ⟨rfl, trivial⟩
                          · have h29 := ifF hg53 h29
                            refine vS (gF hg53) ?_
                            refine vS (gF hg53) ?_
                            refine vS (gF hg53) ?_
                            refine vS (gF hg53) ?_
                            refine vV (x := (.bool false)) (OpV.pickF hg53) ?_
                            refine vV (x := (.bool false)) (OpV.move rfl rfl) ?_
                            refine vS (gF rfl) ?_
                            refine vS (gF rfl) ?_
                            refine vS (gF rfl) ?_
                            refine vS (gF rfl) ?_
                            refine vV (x := (.bool false)) (OpV.pickF rfl) ?_
                            refine vV (x := (.bool false)) (OpV.assign rfl rfl) ?_
                            refine WO.nil ?_
                            obtain rfl := Option.some.inj h29
                            refine cutN ?_
                            exact Le.ren [] rfl rfl (by decide) ⟨rfl, trivial⟩
                        · have h29 := ifF hg51 h29
                          refine vS (gF hg51) ?_
                          refine vS (gF hg51) ?_
                          refine vS (gF hg51) ?_
                          refine vS (gF hg51) ?_
                          refine vV (x := (.bool false)) (OpV.pickF hg51) ?_
                          refine vV (x := (.bool false)) (OpV.move rfl rfl) ?_
                          refine vS (gF rfl) ?_
                          refine vS (gF rfl) ?_
                          refine vS (gF rfl) ?_
                          refine vS (gF rfl) ?_
                          refine vV (x := (.bool false)) (OpV.pickF rfl) ?_
                          refine vV (x := (.bool false)) (OpV.move rfl rfl) ?_
                          refine vS (gF rfl) ?_
                          refine vS (gF rfl) ?_
                          refine vS (gF rfl) ?_
                          refine vS (gF rfl) ?_
                          refine vV (x := (.bool false)) (OpV.pickF rfl) ?_
                          refine vV (x := (.bool false)) (OpV.assign rfl rfl) ?_
                          refine WO.nil ?_
                          obtain rfl := Option.some.inj h29
                          refine cutN ?_
                          exact Le.ren [] rfl rfl (by decide) ⟨rfl, trivial⟩
                      · have h29 := ifF hg49 h29
                        refine vS (gF hg49) ?_
                        refine vS (gF hg49) ?_
                        refine vS (gF hg49) ?_
                        refine vS (gF hg49) ?_
                        refine vS (gF hg49) ?_
                        refine vS (gF hg49) ?_
                        refine vV (x := (.bool false)) (OpV.pickF hg49) ?_
                        refine vV (x := (.bool false)) (OpV.move rfl rfl) ?_
                        refine vS (gF rfl) ?_
                        refine vS (gF rfl) ?_
                        refine vS (gF rfl) ?_
                        refine vS (gF rfl) ?_
                        refine vV (x := (.bool false)) (OpV.pickF rfl) ?_
                        refine vV (x := (.bool false)) (OpV.move rfl rfl) ?_
                        refine vS (gF rfl) ?_
                        refine vS (gF rfl) ?_
                        refine vS (gF rfl) ?_
                        refine vS (gF rfl) ?_
                        refine vV (x := (.bool false)) (OpV.pickF rfl) ?_
                        refine vV (x := (.bool false)) (OpV.move rfl rfl) ?_
                        refine vS (gF rfl) ?_
                        refine vS (gF rfl) ?_
                        refine vS (gF rfl) ?_
                        refine vS (gF rfl) ?_
                        refine vV (x := (.bool false)) (OpV.pickF rfl) ?_
                        refine vV (x := (.bool false)) (OpV.assign rfl rfl) ?_
                        refine WO.nil ?_
                        obtain rfl := Option.some.inj h29
                        refine cutN ?_
                        exact Le.ren [] rfl rfl (by decide) ⟨rfl, trivial⟩
                    · have h29 := ifF hg47 h29
                      refine vS (gF hg47) ?_
                      refine vS (gF hg47) ?_
                      refine vS (gF hg47) ?_
                      refine vS (gF hg47) ?_
                      refine vS (gF hg47) ?_
                      refine vS (gF hg47) ?_
                      refine vV (x := (.bool false)) (OpV.pickF hg47) ?_
                      refine vV (x := (.bool false)) (OpV.move rfl rfl) ?_
                      refine vS (gF rfl) ?_
                      refine vS (gF rfl) ?_
                      refine vS (gF rfl) ?_
                      refine vS (gF rfl) ?_
                      refine vS (gF rfl) ?_
                      refine vS (gF rfl) ?_
                      refine vV (x := (.bool false)) (OpV.pickF rfl) ?_
                      refine vV (x := (.bool false)) (OpV.move rfl rfl) ?_
                      refine vS (gF rfl) ?_
                      refine vS (gF rfl) ?_
                      refine vS (gF rfl) ?_
                      refine vS (gF rfl) ?_
                      refine vV (x := (.bool false)) (OpV.pickF rfl) ?_
                      refine vV (x := (.bool false)) (OpV.move rfl rfl) ?_
                      refine vS (gF rfl) ?_
                      refine vS (gF rfl) ?_
                      refine vS (gF rfl) ?_
                      refine vS (gF rfl) ?_
                      refine vV (x := (.bool false)) (OpV.pickF rfl) ?_
                      refine vV (x := (.bool false)) (OpV.move rfl rfl) ?_
                      refine vS (gF rfl) ?_
                      refine vS (gF rfl) ?_
                      refine vS (gF rfl) ?_
                      refine vS (gF rfl) ?_
                      refine vV (x := (.bool false)) (OpV.pickF rfl) ?_
                      refine vV (x := (.bool false)) (OpV.assign rfl rfl) ?_
                      refine WO.nil ?_
                      obtain rfl := Option.some.inj h29
                      refine cutN ?_
                      exact Le.ren [] rfl rfl (by decide) ⟨rfl, trivial⟩
                  · have h29 := ifF hg45 h29
                    refine vS (gF hg45) ?_
                    refine vS (gF hg45) ?_
                    refine vS (gF hg45) ?_
                    refine vV (x := (.bool false)) (OpV.pickF hg45) ?_
                    refine vV (x := (.bool false)) (OpV.move rfl rfl) ?_
                    refine vS (gF rfl) ?_
                    refine vS (gF rfl) ?_
                    refine vS (gF rfl) ?_
                    refine vS (gF rfl) ?_
                    refine vS (gF rfl) ?_
                    refine vS (gF rfl) ?_
                    refine vV (x := (.bool false)) (OpV.pickF rfl) ?_
                    refine vV (x := (.bool false)) (OpV.move rfl rfl) ?_
                    refine vS (gF rfl) ?_
                    refine vS (gF rfl) ?_
                    refine vS (gF rfl) ?_
                    refine vS (gF rfl) ?_
                    refine vS (gF rfl) ?_
                    refine vS (gF rfl) ?_
                    refine vV (x := (.bool false)) (OpV.pickF rfl) ?_
                    refine vV (x := (.bool false)) (OpV.move rfl rfl) ?_
                    refine vS (gF rfl) ?_
                    refine vS (gF rfl) ?_
                    refine vS (gF rfl) ?_
                    refine vS (gF rfl) ?_
                    refine vV (x := (.bool false)) (OpV.pickF rfl) ?_
                    refine vV (x := (.bool false)) (OpV.move rfl rfl) ?_
                    refine vS (gF rfl) ?_
                    refine vS (gF rfl) ?_
                    refine vS (gF rfl) ?_
                    refine vS (gF rfl) ?_
                    refine vV (x := (.bool false)) (OpV.pickF rfl) ?_
                    refine vV (x := (.bool false)) (OpV.move rfl rfl) ?_
                    refine vS (gF rfl) ?_
                    refine vS (gF rfl) ?_
                    refine vS (gF rfl) ?_
                    refine vS (gF rfl) ?_
                    refine vV (x := (.bool false)) (OpV.pickF rfl) ?_
                    refine vV (x := (.bool false)) (OpV.assign rfl rfl) ?_
                    refine WO.nil ?_
                    obtain rfl := Option.some.inj h29
                    refine cutN ?_
                    exact Le.ren [] rfl rfl (by decide) ⟨rfl, trivial⟩
                · have h29 := ifF hg43 h29
                  refine vS (gF hg43) ?_
                  refine vS (gF hg43) ?_
                  refine vS (gF hg43) ?_
                  refine vS (gF hg43) ?_
                  refine vV (x := (.bool false)) (OpV.pickF hg43) ?_
                  refine vV (x := (.bool false)) (OpV.move rfl rfl) ?_
                  refine vS (gF rfl) ?_
                  refine vS (gF rfl) ?_
                  refine vS (gF rfl) ?_
                  refine vV (x := (.bool false)) (OpV.pickF rfl) ?_
                  refine vV (x := (.bool false)) (OpV.move rfl rfl) ?_
                  refine vS (gF rfl) ?_
                  refine vS (gF rfl) ?_
                  refine vS (gF rfl) ?_
                  refine vS (gF rfl) ?_
                  refine vS (gF rfl) ?_
                  refine vS (gF rfl) ?_
                  refine vV (x := (.bool false)) (OpV.pickF rfl) ?_
                  refine vV (x := (.bool false)) (OpV.move rfl rfl) ?_
                  refine vS (gF rfl) ?_
                  refine vS (gF rfl) ?_
                  refine vS (gF rfl) ?_
                  refine vS (gF rfl) ?_
                  refine vS (gF rfl) ?_
                  refine vS (gF rfl) ?_
                  refine vV (x := (.bool false)) (OpV.pickF rfl) ?_
                  refine vV (x := (.bool false)) (OpV.move rfl rfl) ?_
                  refine vS (gF rfl) ?_
                  refine vS (gF rfl) ?_
                  refine vS (gF rfl) ?_
                  refine vS (gF rfl) ?_
                  refine vV (x := (.bool false)) (OpV.pickF rfl) ?_
                  refine vV (x := (.bool false)) (OpV.move rfl rfl) ?_
                  refine vS (gF rfl) ?_
                  refine vS (gF rfl) ?_
                  refine vS (gF rfl) ?_
                  refine vS (gF rfl) ?_
                  refine vV (x := (.bool false)) (OpV.pickF rfl) ?_
                  refine vV (x := (.bool false)) (OpV.move rfl rfl) ?_
                  refine vS (gF rfl) ?_
                  refine vS (gF rfl) ?_
                  refine vS (gF rfl) ?_
                  refine vS (gF rfl) ?_
                  refine vV (x := (.bool false)) (OpV.pickF rfl) ?_
                  refine vV (x := (.bool false)) (OpV.assign rfl rfl) ?_
                  refine WO.nil ?_
                  obtain rfl := Option.some.inj h29
                  refine cutN ?_
                  exact Le.ren [] rfl rfl (by decide) ⟨rfl, trivial⟩
              · have h29 := ifF hg41 h29
                refine vS (gF hg41) ?_
                refine vS (gF hg41) ?_
                refine vS (gF hg41) ?_
                refine vV (x := (.bool false)) (OpV.pickF hg41) ?_
                refine vV (x := (.bool false)) (OpV.move rfl rfl) ?_
                refine vS (gF rfl) ?_
                refine vS (gF rfl) ?_
                refine vS (gF rfl) ?_
                refine vS (gF rfl) ?_
                refine vV (x := (.bool false)) (OpV.pickF rfl) ?_
                refine vV (x := (.bool false)) (OpV.move rfl rfl) ?_
                refine vS (gF rfl) ?_
                refine vS (gF rfl) ?_
                refine vS (gF rfl) ?_
                refine vV (x := (.bool false)) (OpV.pickF rfl) ?_
                refine vV (x := (.bool false)) (OpV.move rfl rfl) ?_
                refine vS (gF rfl) ?_
                refine vS (gF rfl) ?_
                refine vS (gF rfl) ?_
                refine vS (gF rfl) ?_
                refine vS (gF rfl) ?_
                refine vS (gF rfl) ?_
                refine vV (x := (.bool false)) (OpV.pickF rfl) ?_
                refine vV (x := (.bool false)) (OpV.move rfl rfl) ?_
                refine vS (gF rfl) ?_
                refine vS (gF rfl) ?_
                refine vS (gF rfl) ?_
                refine vS (gF rfl) ?_
                refine vS (gF rfl) ?_
                refine vS (gF rfl) ?_
                refine vV (x := (.bool false)) (OpV.pickF rfl) ?_
                refine vV (x := (.bool false)) (OpV.move rfl rfl) ?_
                refine vS (gF rfl) ?_
                refine vS (gF rfl) ?_
                refine vS (gF rfl) ?_
                refine vS (gF rfl) ?_
                refine vV (x := (.bool false)) (OpV.pickF rfl) ?_
                refine vV (x := (.bool false)) (OpV.move rfl rfl) ?_
                refine vS (gF rfl) ?_
                refine vS (gF rfl) ?_
                refine vS (gF rfl) ?_
                refine vS (gF rfl) ?_
                refine vV (x := (.bool false)) (OpV.pickF rfl) ?_
                refine vV (x := (.bool false)) (OpV.move rfl rfl) ?_
                refine vS (gF rfl) ?_
                refine vS (gF rfl) ?_
                refine vS (gF rfl) ?_
                refine vS (gF rfl) ?_
                refine vV (x := (.bool false)) (OpV.pickF rfl) ?_
                refine vV (x := (.bool false)) (OpV.assign rfl rfl) ?_
                refine WO.nil ?_
                obtain rfl := Option.some.inj h29
                refine cutN ?_
                exact Le.ren [] rfl rfl (by decide) ⟨rfl, trivial⟩
            · have h29 := ifF hg39 h29
              refine vS (gF hg39) ?_
              refine vS (gF hg39) ?_
              refine vS (gF hg39) ?_
              refine vS (gF hg39) ?_
              refine vV (x := (.bool false)) (OpV.pickF hg39) ?_
              refine vV (x := (.bool false)) (OpV.move rfl rfl) ?_
              refine vS (gF rfl) ?_
              refine vS (gF rfl) ?_
              refine vS (gF rfl) ?_
              refine vV (x := (.bool false)) (OpV.pickF rfl) ?_
              refine vV (x := (.bool false)) (OpV.move rfl rfl) ?_
              refine vS (gF rfl) ?_
              refine vS (gF rfl) ?_
              refine vS (gF rfl) ?_
              refine vS (gF rfl) ?_
              refine vV (x := (.bool false)) (OpV.pickF rfl) ?_
              refine vV (x := (.bool false)) (OpV.move rfl rfl) ?_
              refine vS (gF rfl) ?_
              refine vS (gF rfl) ?_
              refine vS (gF rfl) ?_
              refine vV (x := (.bool false)) (OpV.pickF rfl) ?_
              refine vV (x := (.bool false)) (OpV.move rfl rfl) ?_
              refine vS (gF rfl) ?_
              refine vS (gF rfl) ?_
              refine vS (gF rfl) ?_
              refine vS (gF rfl) ?_
              refine vS (gF rfl) ?_
              refine vS (gF rfl) ?_
              refine vV (x := (.bool false)) (OpV.pickF rfl) ?_
              refine vV (x := (.bool false)) (OpV.move rfl rfl) ?_
              refine vS (gF rfl) ?_
              refine vS (gF rfl) ?_
              refine vS (gF rfl) ?_
              refine vS (gF rfl) ?_
              refine vS (gF rfl) ?_
              refine vS (gF rfl) ?_
              refine vV (x := (.bool false)) (OpV.pickF rfl) ?_
              refine vV (x := (.bool false)) (OpV.move rfl rfl) ?_
              refine vS (gF rfl) ?_
              refine vS (gF rfl) ?_
              refine vS (gF rfl) ?_
              refine vS (gF rfl) ?_
              refine vV (x := (.bool false)) (OpV.pickF rfl) ?_
              refine vV (x := (.bool false)) (OpV.move rfl rfl) ?_
              refine vS (gF rfl) ?_
              refine vS (gF rfl) ?_
              refine vS (gF rfl) ?_
              refine vS (gF rfl) ?_
              refine vV (x := (.bool false)) (OpV.pickF rfl) ?_
              refine vV (x := (.bool false)) (OpV.move rfl rfl) ?_
              refine vS (gF rfl) ?_
              refine vS (gF rfl) ?_
              refine vS (gF rfl) ?_
              refine vS (gF rfl) ?_
              refine vV (x := (.bool false)) (OpV.pickF rfl) ?_
              refine vV (x := (.bool false)) (OpV.assign rfl rfl) ?_
              refine WO.nil ?_
              obtain rfl := Option.some.inj h29
              refine cutN ?_
              exact Le.ren [] rfl rfl (by decide) ⟨rfl, trivial⟩
          · have h29 := ifF hg37 h29
            refine vS (gF hg37) ?_
            refine vS (gF hg37) ?_
            refine vS (gF hg37) ?_
            refine vV (x := (.bool false)) (OpV.pickF hg37) ?_
            refine vV (x := (.bool false)) (OpV.move rfl rfl) ?_
            refine vS (gF rfl) ?_
            refine vS (gF rfl) ?_
            refine vS (gF rfl) ?_
            refine vS (gF rfl) ?_
            refine vV (x := (.bool false)) (OpV.pickF rfl) ?_
            refine vV (x := (.bool false)) (OpV.move rfl rfl) ?_
            refine vS (gF rfl) ?_
            refine vS (gF rfl) ?_
            refine vS (gF rfl) ?_
            refine vV (x := (.bool false)) (OpV.pickF rfl) ?_
            refine vV (x := (.bool false)) (OpV.move rfl rfl) ?_
            refine vS (gF rfl) ?_
            refine vS (gF rfl) ?_
            refine vS (gF rfl) ?_
            refine vS (gF rfl) ?_
            refine vV (x := (.bool false)) (OpV.pickF rfl) ?_
            refine vV (x := (.bool false)) (OpV.move rfl rfl) ?_
            refine vS (gF rfl) ?_
            refine vS (gF rfl) ?_
            refine vS (gF rfl) ?_
            refine vV (x := (.bool false)) (OpV.pickF rfl) ?_
            refine vV (x := (.bool false)) (OpV.move rfl rfl) ?_
            refine vS (gF rfl) ?_
            refine vS (gF rfl) ?_
            refine vS (gF rfl) ?_
            refine vS (gF rfl) ?_
            refine vS (gF rfl) ?_
            refine vS (gF rfl) ?_
            refine vV (x := (.bool false)) (OpV.pickF rfl) ?_
            refine vV (x := (.bool false)) (OpV.move rfl rfl) ?_
            refine vS (gF rfl) ?_
            refine vS (gF rfl) ?_
            refine vS (gF rfl) ?_
            refine vS (gF rfl) ?_
            refine vS (gF rfl) ?_
            refine vS (gF rfl) ?_
            refine vV (x := (.bool false)) (OpV.pickF rfl) ?_
            refine vV (x := (.bool false)) (OpV.move rfl rfl) ?_
            refine vS (gF rfl) ?_
            refine vS (gF rfl) ?_
            refine vS (gF rfl) ?_
            refine vS (gF rfl) ?_
            refine vV (x := (.bool false)) (OpV.pickF rfl) ?_
            refine vV (x := (.bool false)) (OpV.move rfl rfl) ?_
            refine vS (gF rfl) ?_
            refine vS (gF rfl) ?_
            refine vS (gF rfl) ?_
            refine vS (gF rfl) ?_
            refine vV (x := (.bool false)) (OpV.pickF rfl) ?_
            refine vV (x := (.bool false)) (OpV.move rfl rfl) ?_
            refine vS (gF rfl) ?_
            refine vS (gF rfl) ?_
            refine vS (gF rfl) ?_
            refine vS (gF rfl) ?_
            refine vV (x := (.bool false)) (OpV.pickF rfl) ?_
            refine vV (x := (.bool false)) (OpV.assign rfl rfl) ?_
            refine WO.nil ?_
            obtain rfl := Option.some.inj h29
            refine cutN ?_
            exact Le.ren [] rfl rfl (by decide) ⟨rfl, trivial⟩
        · have h29 := ifF hg35 h29
          refine vS (gF hg35) ?_
          refine vS (gF hg35) ?_
          refine vS (gF hg35) ?_
          refine vS (gF hg35) ?_
          refine vV (x := (.bool false)) (OpV.pickF hg35) ?_
          refine vV (x := (.bool false)) (OpV.move rfl rfl) ?_
          refine vS (gF rfl) ?_
          refine vS (gF rfl) ?_
          refine vS (gF rfl) ?_
          refine vV (x := (.bool false)) (OpV.pickF rfl) ?_
          refine vV (x := (.bool false)) (OpV.move rfl rfl) ?_
          refine vS (gF rfl) ?_
          refine vS (gF rfl) ?_
          refine vS (gF rfl) ?_
          refine vS (gF rfl) ?_
          refine vV (x := (.bool false)) (OpV.pickF rfl) ?_
          refine vV (x := (.bool false)) (OpV.move rfl rfl) ?_
          refine vS (gF rfl) ?_
          refine vS (gF rfl) ?_
          refine vS (gF rfl) ?_
          refine vV (x := (.bool false)) (OpV.pickF rfl) ?_
          refine vV (x := (.bool false)) (OpV.move rfl rfl) ?_
          refine vS (gF rfl) ?_
          refine vS (gF rfl) ?_
          refine vS (gF rfl) ?_
          refine vS (gF rfl) ?_
          refine vV (x := (.bool false)) (OpV.pickF rfl) ?_
          refine vV (x := (.bool false)) (OpV.move rfl rfl) ?_
          refine vS (gF rfl) ?_
          refine vS (gF rfl) ?_
          refine vS (gF rfl) ?_
          refine vV (x := (.bool false)) (OpV.pickF rfl) ?_
          refine vV (x := (.bool false)) (OpV.move rfl rfl) ?_
          refine vS (gF rfl) ?_
          refine vS (gF rfl) ?_
          refine vS (gF rfl) ?_
          refine vS (gF rfl) ?_
          refine vS (gF rfl) ?_
          refine vS (gF rfl) ?_
          refine vV (x := (.bool false)) (OpV.pickF rfl) ?_
          refine vV (x := (.bool false)) (OpV.move rfl rfl) ?_
          refine vS (gF rfl) ?_
          refine vS (gF rfl) ?_
          refine vS (gF rfl) ?_
          refine vS (gF rfl) ?_
          refine vS (gF rfl) ?_
          refine vS (gF rfl) ?_
          refine vV (x := (.bool false)) (OpV.pickF rfl) ?_
          refine vV (x := (.bool false)) (OpV.move rfl rfl) ?_
          refine vS (gF rfl) ?_
          refine vS (gF rfl) ?_
          refine vS (gF rfl) ?_
          refine vS (gF rfl) ?_
          refine vV (x := (.bool false)) (OpV.pickF rfl) ?_
          refine vV (x := (.bool false)) (OpV.move rfl rfl) ?_
          refine vS (gF rfl) ?_
          refine vS (gF rfl) ?_
          refine vS (gF rfl) ?_
          refine vS (gF rfl) ?_
          refine vV (x := (.bool false)) (OpV.pickF rfl) ?_
          refine vV (x := (.bool false)) (OpV.move rfl rfl) ?_
          refine vS (gF rfl) ?_
          refine vS (gF rfl) ?_
          refine vS (gF rfl) ?_
          refine vS (gF rfl) ?_
          refine vV (x := (.bool false)) (OpV.pickF rfl) ?_
          refine vV (x := (.bool false)) (OpV.assign rfl rfl) ?_
          refine WO.nil ?_
          obtain rfl := Option.some.inj h29
          refine cutN ?_
          exact Le.ren [] rfl rfl (by decide) ⟨rfl, trivial⟩
      · have h29 := ifF hg33 h29
        refine vS (gF hg33) ?_
        refine vS (gF hg33) ?_
        refine vS (gF hg33) ?_
        refine vV (x := (.bool false)) (OpV.pickF hg33) ?_
        refine vV (x := (.bool false)) (OpV.move rfl rfl) ?_
        refine vS (gF rfl) ?_
        refine vS (gF rfl) ?_
        refine vS (gF rfl) ?_
        refine vS (gF rfl) ?_
        refine vV (x := (.bool false)) (OpV.pickF rfl) ?_
        refine vV (x := (.bool false)) (OpV.move rfl rfl) ?_
        refine vS (gF rfl) ?_
        refine vS (gF rfl) ?_
        refine vS (gF rfl) ?_
        refine vV (x := (.bool false)) (OpV.pickF rfl) ?_
        refine vV (x := (.bool false)) (OpV.move rfl rfl) ?_
        refine vS (gF rfl) ?_
        refine vS (gF rfl) ?_
        refine vS (gF rfl) ?_
        refine vS (gF rfl) ?_
        refine vV (x := (.bool false)) (OpV.pickF rfl) ?_
        refine vV (x := (.bool false)) (OpV.move rfl rfl) ?_
        refine vS (gF rfl) ?_
        refine vS (gF rfl) ?_
        refine vS (gF rfl) ?_
        refine vV (x := (.bool false)) (OpV.pickF rfl) ?_
        refine vV (x := (.bool false)) (OpV.move rfl rfl) ?_
        refine vS (gF rfl) ?_
        refine vS (gF rfl) ?_
        refine vS (gF rfl) ?_
        refine vS (gF rfl) ?_
        refine vV (x := (.bool false)) (OpV.pickF rfl) ?_
        refine vV (x := (.bool false)) (OpV.move rfl rfl) ?_
        refine vS (gF rfl) ?_
        refine vS (gF rfl) ?_
        refine vS (gF rfl) ?_
        refine vV (x := (.bool false)) (OpV.pickF rfl) ?_
        refine vV (x := (.bool false)) (OpV.move rfl rfl) ?_
        refine vS (gF rfl) ?_
        refine vS (gF rfl) ?_
        refine vS (gF rfl) ?_
        refine vS (gF rfl) ?_
        refine vS (gF rfl) ?_
        refine vS (gF rfl) ?_
        refine vV (x := (.bool false)) (OpV.pickF rfl) ?_
        refine vV (x := (.bool false)) (OpV.move rfl rfl) ?_
        refine vS (gF rfl) ?_
        refine vS (gF rfl) ?_
        refine vS (gF rfl) ?_
        refine vS (gF rfl) ?_
        refine vS (gF rfl) ?_
        refine vS (gF rfl) ?_
        refine vV (x := (.bool false)) (OpV.pickF rfl) ?_
        refine vV (x := (.bool false)) (OpV.move rfl rfl) ?_
        refine vS (gF rfl) ?_
        refine vS (gF rfl) ?_
        refine vS (gF rfl) ?_
        refine vS (gF rfl) ?_
        refine vV (x := (.bool false)) (OpV.pickF rfl) ?_
        refine vV (x := (.bool false)) (OpV.move rfl rfl) ?_
        refine vS (gF rfl) ?_
        refine vS (gF rfl) ?_
        refine vS (gF rfl) ?_
        refine vS (gF rfl) ?_
        refine vV (x := (.bool false)) (OpV.pickF rfl) ?_
        refine vV (x := (.bool false)) (OpV.move rfl rfl) ?_
        refine vS (gF rfl) ?_
        refine vS (gF rfl) ?_
        refine vS (gF rfl) ?_
        refine vS (gF rfl) ?_
        refine vV (x := (.bool false)) (OpV.pickF rfl) ?_
        refine vV (x := (.bool false)) (OpV.assign rfl rfl) ?_
        refine WO.nil ?_
        obtain rfl := Option.some.inj h29
        refine cutN ?_
        exact Le.ren [] rfl rfl (by decide) ⟨rfl, trivial⟩
    · have h29 := ifF hg31 h29
      refine vS (gF hg31) ?_
      refine vS (gF hg31) ?_
      refine vS (gF hg31) ?_
      refine vS (gF hg31) ?_
      refine vV (x := (.bool false)) (OpV.pickF hg31) ?_
      refine vV (x := (.bool false)) (OpV.move rfl rfl) ?_
      refine vS (gF rfl) ?_
      refine vS (gF rfl) ?_
      refine vS (gF rfl) ?_
      refine vV (x := (.bool false)) (OpV.pickF rfl) ?_
      refine vV (x := (.bool false)) (OpV.move rfl rfl) ?_
      refine vS (gF rfl) ?_
      refine vS (gF rfl) ?_
      refine vS (gF rfl) ?_
      refine vS (gF rfl) ?_
      refine vV (x := (.bool false)) (OpV.pickF rfl) ?_
      refine vV (x := (.bool false)) (OpV.move rfl rfl) ?_
      refine vS (gF rfl) ?_
      refine vS (gF rfl) ?_
      refine vS (gF rfl) ?_
      refine vV (x := (.bool false)) (OpV.pickF rfl) ?_
      refine vV (x := (.bool false)) (OpV.move rfl rfl) ?_
      refine vS (gF rfl) ?_
      refine vS (gF rfl) ?_
      refine vS (gF rfl) ?_
      refine vS (gF rfl) ?_
      refine vV (x := (.bool false)) (OpV.pickF rfl) ?_
      refine vV (x := (.bool false)) (OpV.move rfl rfl) ?_
      refine vS (gF rfl) ?_
      refine vS (gF rfl) ?_
      refine vS (gF rfl) ?_
      refine vV (x := (.bool false)) (OpV.pickF rfl) ?_
      refine vV (x := (.bool false)) (OpV.move rfl rfl) ?_
      refine vS (gF rfl) ?_
      refine vS (gF rfl) ?_
      refine vS (gF rfl) ?_
      refine vS (gF rfl) ?_
      refine vV (x := (.bool false)) (OpV.pickF rfl) ?_
      refine vV (x := (.bool false)) (OpV.move rfl rfl) ?_
      refine vS (gF rfl) ?_
      refine vS (gF rfl) ?_
      refine vS (gF rfl) ?_
      refine vV (x := (.bool false)) (OpV.pickF rfl) ?_
      refine vV (x := (.bool false)) (OpV.move rfl rfl) ?_
      refine vS (gF rfl) ?_
      refine vS (gF rfl) ?_
      refine vS (gF rfl) ?_
      refine vS (gF rfl) ?_
      refine vS (gF rfl) ?_
      refine vS (gF rfl) ?_
      refine vV (x := (.bool false)) (OpV.pickF rfl) ?_
      refine vV (x := (.bool false)) (OpV.move rfl rfl) ?_
      refine vS (gF rfl) ?_
      refine vS (gF rfl) ?_
      refine vS (gF rfl) ?_
      refine vS (gF rfl) ?_
      refine vS (gF rfl) ?_
      refine vS (gF rfl) ?_
      refine vV (x := (.bool false)) (OpV.pickF rfl) ?_
      refine vV (x := (.bool false)) (OpV.move rfl rfl) ?_
      refine vS (gF rfl) ?_
      refine vS (gF rfl) ?_
      refine vS (gF rfl) ?_
      refine vS (gF rfl) ?_
      refine vV (x := (.bool false)) (OpV.pickF rfl) ?_
      refine vV (x := (.bool false)) (OpV.move rfl rfl) ?_
      refine vS (gF rfl) ?_
      refine vS (gF rfl) ?_
      refine vS (gF rfl) ?_
      refine vS (gF rfl) ?_
      refine vV (x := (.bool false)) (OpV.pickF rfl) ?_
      refine vV (x := (.bool false)) (OpV.move rfl rfl) ?_
      refine vS (gF rfl) ?_
      refine vS (gF rfl) ?_
      refine vS (gF rfl) ?_
      refine vS (gF rfl) ?_
      refine vV (x := (.bool false)) (OpV.pickF rfl) ?_
      refine vV (x := (.bool false)) (OpV.assign rfl rfl) ?_
      refine WO.nil ?_
      obtain rfl := Option.some.inj h29
      refine cutN ?_
      exact Le.ren [] rfl rfl (by decide) ⟨rfl, trivial⟩
  refine seqN (TC.le hle ?_)
  refine TC.ret ?_
  obtain rfl := Option.some.inj h
  refine ⟨[(2, .bool b28)], [], _, ?_, ResOK.one rfl rfl, rfl, rfl⟩
  exact Le.ren [] rfl rfl (by decide) ⟨rfl, trivial⟩

/- stopwatch/typing.steps -/
def F_typing_steps_L1 (n : Nat) (a1 : List Step) (s7 : Unit) : Option (Ctl Unit Unit) :=
  (bif decide (0 < (a1.length : Int)) then (idx a1 0).bind fun x11 => none else some (.done ()))
def F_typing_steps (n : Nat) (a1 : List Step) : Option Unit :=
  (iter (F_typing_steps_L1 n a1) n () : Option Unit).bind fun b4 => some ()
theorem ok_typing_steps (n : Nat) (a1 : List Step) (r : Unit) (h : F_typing_steps n a1 = some r) :
    C Tryz.prog 108 [.rsl 8 (List.map Step.enc a1)] [] (fun a H => a = .nils ∧ H = []) := by
  refine C.of_body Tryz.func108 rfl rfl rfl ?_
  refine TC.seq ?_
  refine TC.region ?_
  refine vV (x := .nils) (OpV.assign rfl rfl) ?_
  refine WO.nil ?_
  refine seqN ?_
  refine TC.seq ?_
  refine TC.seq ?_
  refine TC.region ?_
  refine vV (x := (.rsl 8 (List.map Step.enc a1))) (OpV.move rfl rfl) ?_
  refine vV (x := (.int .i64 (a1.length : Int))) (OpV.lenM Tryz.runUnderlying29) ?_
  refine vV (x := (.int .i64 0)) (OpV.move rfl rfl) ?_
  refine WO.nil ?_
  refine seqN ?_
  obtain ⟨b4, h5, h⟩ := bnd h
  refine TC.cut ([(2, .nils)]) ([]) ?_ (fun env H hle => ?_)
  ·
    refine TC.block ?_
    refine TC.loop (E := fun s7 => [(2, .nils), (5, .rsl 8 (List.map Step.enc a1)), (6, .int .i64 (a1.length : Int)), (7, .int .i64 0)]) (Hp := fun s7 => []) h5 ?_ ?_
    ·
      exact Le.ren [] rfl rfl (by decide) ⟨rfl, rfl, rfl, rfl, trivial⟩
    intro s7 d8 h9 hb6
    refine TC.seq ?_
    refine TC.region ?_
    refine vV (x := (.bool (decide (0 < (a1.length : Int))))) (OpV.lss rfl rfl rfl) ?_
    refine WO.nil ?_
    refine seqN ?_
    refine TC.seq ?_
    refine TC.condS rfl (fun hc10 => ?_) (fun hc10 => ?_)
    · have h9 := ifF hc10 h9
      refine TC.exit ?_
      refine seqX ?_
      refine loopX h9 ?_
      obtain rfl := hb6 _ (Option.some.inj h9).symm
      refine bloE ?_
      refine cutN ?_
      exact Le.ren [] rfl rfl (by decide) ⟨rfl, trivial⟩
    have h9 := ifT hc10 h9
    refine TC.skip ?_
    refine seqN ?_
    refine TC.seq ?_
    refine TC.block ?_
    refine TC.seq ?_
    refine TC.region ?_
    obtain ⟨x11, hx11, h9⟩ := bnd h9
    refine vV (x := (.rp [.int .i64 x11.Kind, .int .i64 x11.By, .int .i64 x11.Cond.Kind, .int .i64 x11.Cond.Var, .int .i64 x11.Cond.N, .rsl 4 (List.map Cond.enc x11.Cond.Parts), .rsl 8 (List.map Step.enc x11.Then), .rsl 8 (List.map Step.enc x11.Else)])) (OpV.ixME (e := Step.enc) hx11 (Step.enc_eq x11) Tryz.runUnderlying29 Tryz.sizeOf127) ?_
    refine vV (x := (.agg (Step.cells x11))) (OpV.loadA rfl Tryz.isAgg127 Tryz.sizeOf127 rfl Pts.rp rfl rfl) ?_
    refine vH (OpH.allocZ (v := (.agg [.int .i64 0, .int .i64 0, .int .i64 0, .int .i64 0, .int .i64 0, .rsl 4 (List.map Cond.enc []), .rsl 8 (List.map Step.enc []), .rsl 8 (List.map Step.enc [])])) Tryz.zeroValue127 (ZR.agg (ZL.cons ZR.int (ZL.cons ZR.int (ZL.cons ZR.int (ZL.cons ZR.int (ZL.cons ZR.int (ZL.cons ZR.rsl (ZL.cons ZR.rsl (ZL.cons ZR.rsl ZL.nil)))))))))) ?_
    refine WO.atV (x := (.ptr 0 0)) (H := [.cells 127 [.int .i64 0, .int .i64 0, .int .i64 0, .int .i64 0, .int .i64 0, .rsl 4 (List.map Cond.enc []), .rsl 8 (List.map Step.enc []), .rsl 8 (List.map Step.enc [])]]) rfl rfl ?_
    refine vU (OpU.store rfl rfl rfl Tryz.sizeOf127 rfl rfl rfl rfl rfl rfl rfl) ?_
    refine WO.atH (H := [.cells 127 (Step.cells x11)]) rfl ?_
    refine WO.nil ?_
    refine seqN ?_
    cases h9
  refine seqN (TC.le hle ?_)
  refine TC.seq ?_
  refine TC.region ?_
  refine vV (x := .nils) (OpV.move rfl rfl) ?_
  refine vV (x := .nils) (OpV.assign rfl rfl) ?_
  refine WO.nil ?_
  refine seqN ?_
  refine TC.ret ?_
  obtain rfl := Option.some.inj h
  refine ⟨[(2, .nils)], [], _, ?_, ResOK.one rfl rfl, rfl, rfl⟩
  exact Le.ren [] rfl rfl (by decide) ⟨rfl, trivial⟩

/- stopwatch/typing.Course -/
def F_typing_Course (n : Nat) (a1 : Course) : Option Int :=
  (F_typing_fits n a1).bind fun r1 => (bif (!r1) then some 2 else (F_typing_names n a1).bind fun r3 => (bif (!false) then some 70 else (F_typing_numbers n a1).bind fun r5 => (bif (!r5) then some 71 else none)))
theorem ok_typing_Course (n : Nat) (a1 : Course) (r : Int) (h : F_typing_Course n a1 = some r) :
    C Tryz.prog 26 [.agg (Course.cells a1)] [] (fun a H => a = .int .i64 r ∧ H = []) := by
  refine C.of_body Tryz.func26 rfl rfl rfl ?_
  refine TC.seq ?_
  refine TC.region ?_
  refine vH (OpH.box rfl rfl rfl rfl rfl) ?_
  refine WO.atV (x := (.ptr 0 0)) (H := [.cells 33 (Course.cells a1)]) rfl rfl ?_
  refine vV (x := (.int .i64 0)) (OpV.assign rfl rfl) ?_
  refine WO.nil ?_
  refine seqN ?_
  refine TC.seq ?_
  refine TC.block ?_
  refine TC.seq ?_
  refine TC.region ?_
  refine vV (x := (.agg (Course.cells a1))) (OpV.loadA rfl Tryz.isAgg33 Tryz.sizeOf33 rfl (Pts.cells rfl rfl) rfl rfl) ?_
  obtain ⟨r1, hr1, h⟩ := bnd h
  refine WO.callD [] (OpC.fn Tryz.call43 rfl rfl rfl) (ok_typing_fits _ _ _ hr1) ?_
  rintro _ _ ⟨rfl, rfl⟩
  refine WO.atV (x := (.bool r1)) (H := [.cells 33 (Course.cells a1)]) rfl rfl ?_
  refine vV (x := (.bool (!r1))) (OpV.not rfl rfl) ?_
  refine vV (x := (.bool (!r1))) (OpV.assign rfl rfl) ?_
  refine WO.nil ?_
  refine seqN ?_
  refine TC.cond rfl (fun hc2 => ?_) (fun hc2 => ?_)
  · have h := ifT hc2 h
    refine TC.seq ?_
    refine TC.region ?_
    refine vV (x := (.int .i64 2)) (OpV.assign rfl rfl) ?_
    refine WO.nil ?_
    refine seqN ?_
    refine TC.ret ?_
    refine bloR ?_
    refine seqR ?_
    obtain rfl := Option.some.inj h
    refine ⟨[(2, .int .i64 2)], [], _, ?_, ResOK.one rfl rfl, rfl, rfl⟩
    exact Le.ren [] rfl rfl (by decide) ⟨rfl, trivial⟩
  have h := ifF hc2 h
  refine TC.seq ?_
  refine TC.region ?_
  refine vV (x := (.agg (Course.cells a1))) (OpV.loadA rfl Tryz.isAgg33 Tryz.sizeOf33 rfl (Pts.cells rfl rfl) rfl rfl) ?_
  obtain ⟨r3, hr3, h⟩ := bnd h
  refine WO.callD [] (OpC.fn Tryz.call44 rfl rfl rfl) (ok_typing_names _ _ _ hr3) ?_
  rintro _ _ ⟨rfl, rfl⟩
  refine WO.atV (x := (.bool false)) (H := [.cells 33 (Course.cells a1)]) rfl rfl ?_
  refine vV (x := (.bool (!false))) (OpV.not rfl rfl) ?_
  refine vV (x := (.bool (!false))) (OpV.assign rfl rfl) ?_
  refine WO.nil ?_
  refine seqN ?_
  refine TC.cond rfl (fun hc4 => ?_) (fun hc4 => ?_)
  · have h := ifT hc4 h
    refine TC.seq ?_
    refine TC.region ?_
    refine vV (x := (.int .i64 70)) (OpV.assign rfl rfl) ?_
    refine WO.nil ?_
    refine seqN ?_
    refine TC.ret ?_
    refine bloR ?_
    refine seqR ?_
    obtain rfl := Option.some.inj h
    refine ⟨[(2, .int .i64 70)], [], _, ?_, ResOK.one rfl rfl, rfl, rfl⟩
    exact Le.ren [] rfl rfl (by decide) ⟨rfl, trivial⟩
  have h := ifF hc4 h
  refine TC.seq ?_
  refine TC.region ?_
  refine vV (x := (.agg (Course.cells a1))) (OpV.loadA rfl Tryz.isAgg33 Tryz.sizeOf33 rfl (Pts.cells rfl rfl) rfl rfl) ?_
  obtain ⟨r5, hr5, h⟩ := bnd h
  refine WO.callD [] (OpC.fn Tryz.call45 rfl rfl rfl) (ok_typing_numbers _ _ _ hr5) ?_
  rintro _ _ ⟨rfl, rfl⟩
  refine WO.atV (x := (.bool r5)) (H := [.cells 33 (Course.cells a1)]) rfl rfl ?_
  refine vV (x := (.bool (!r5))) (OpV.not rfl rfl) ?_
  refine vV (x := (.bool (!r5))) (OpV.assign rfl rfl) ?_
  refine WO.nil ?_
  refine seqN ?_
  refine TC.cond rfl (fun hc6 => ?_) (fun hc6 => ?_)
  · have h := ifT hc6 h
    refine TC.seq ?_
    refine TC.region ?_
    refine vV (x := (.int .i64 71)) (OpV.assign rfl rfl) ?_
    refine WO.nil ?_
    refine seqN ?_
    refine TC.ret ?_
    refine bloR ?_
    refine seqR ?_
    obtain rfl := Option.some.inj h
    refine ⟨[(2, .int .i64 71)], [], _, ?_, ResOK.one rfl rfl, rfl, rfl⟩
    exact Le.ren [] rfl rfl (by decide) ⟨rfl, trivial⟩
  have h := ifF hc6 h
  refine TC.skip ?_
  refine bloN ?_
  refine seqN ?_
  refine TC.seq ?_
  refine TC.seq ?_
  cases h

/- stopwatch/categories.ofDistance -/
def F_categories_ofDistance (n : Nat) (a1 : Int) : Option Unit :=
  some ()
theorem ok_categories_ofDistance (n : Nat) (a1 : Int) (r : Unit) (h : F_categories_ofDistance n a1 = some r) :
    C Tryz.prog 28 [.int .i64 a1] [] (fun a H => a = .fn (.func 55) [] [.ptr 0 0] ∧ H = [.cells 3 [.int .i64 a1]]) := by
  refine C.of_body Tryz.func28 rfl rfl rfl ?_
  refine TC.seq ?_
  refine TC.region ?_
  refine vH (OpH.box rfl rfl rfl rfl rfl) ?_
  refine WO.atV (x := (.ptr 0 0)) (H := [.cells 3 [.int .i64 a1]]) rfl rfl ?_
  refine vV (x := .nilf) (OpV.assign rfl rfl) ?_
  refine WO.nil ?_
  refine seqN ?_
  refine TC.seq ?_
  refine TC.region ?_
  refine vV (x := (.fn (.func 55) [] [.ptr 0 0])) (OpV.makeFunc (first := []) (cap := [.tmp 1]) rfl rfl rfl) ?_
  refine vV (x := (.fn (.func 55) [] [.ptr 0 0])) (OpV.assign rfl rfl) ?_
  refine WO.nil ?_
  refine seqN ?_
  refine TC.ret ?_
  obtain rfl := Option.some.inj h
  refine ⟨[(2, .fn (.func 55) [] [.ptr 0 0])], [.cells 3 [.int .i64 a1]], _, ?_, ResOK.one rfl rfl, rfl, rfl⟩
  exact Le.ren [0] rfl rfl (by decide) ⟨rfl, trivial⟩

/- stopwatch/categories.ofCategory -/
def F_categories_ofCategory (n : Nat) (a1 : Course) (a2 : Int) : Option Course :=
  some a1
theorem ok_categories_ofCategory (n : Nat) (a1 : Course) (a2 : Int) (r : Course) (h : F_categories_ofCategory n a1 a2 = some r) :
    C Tryz.prog 29 [.agg (Course.cells a1), .int .i64 a2] [] (fun a H => a = .fn (.func 56) [] [.ptr 0 0, .ptr 1 0] ∧ H = [.cells 3 [.int .i64 a2], .cells 33 (Course.cells r)]) := by
  refine C.of_body Tryz.func29 rfl rfl rfl ?_
  refine TC.seq ?_
  refine TC.region ?_
  refine vH (OpH.box rfl rfl rfl rfl rfl) ?_
  refine WO.atV (x := (.ptr 0 0)) (H := [.cells 33 (Course.cells a1)]) rfl rfl ?_
  refine vH (OpH.box rfl rfl rfl rfl rfl) ?_
  refine WO.atV (x := (.ptr 1 0)) (H := [.cells 33 (Course.cells a1), .cells 3 [.int .i64 a2]]) rfl rfl ?_
  refine vV (x := .nilf) (OpV.assign rfl rfl) ?_
  refine WO.nil ?_
  refine seqN ?_
  refine TC.seq ?_
  refine TC.region ?_
  refine vV (x := (.fn (.func 56) [] [.ptr 1 0, .ptr 0 0])) (OpV.makeFunc (first := []) (cap := [.tmp 3, .tmp 2]) rfl rfl rfl) ?_
  refine vV (x := (.fn (.func 56) [] [.ptr 1 0, .ptr 0 0])) (OpV.assign rfl rfl) ?_
  refine WO.nil ?_
  refine seqN ?_
  refine TC.ret ?_
  obtain rfl := Option.some.inj h
  refine ⟨[(4, .fn (.func 56) [] [.ptr 0 0, .ptr 1 0])], [.cells 3 [.int .i64 a2], .cells 33 (Course.cells a1)], _, ?_, ResOK.one rfl rfl, rfl, rfl⟩
  exact Le.ren [1, 0] rfl rfl (by decide) ⟨rfl, trivial⟩

/- stopwatch/categories.Members -/
def F_categories_Members (n : Nat) (a1 : Course) (a2 : List Starter) (a3 : Int) (a4 : Int) : Option Int :=
  (F_typing_Course n a1).bind fun r1 => (bif (r1 != 0) then some r1 else ((bif decide (a3 < 0) then some (a1, true) else some (a1, decide ((a1.Distances.length : Int) ≤ a3))) : Option (Course × Bool)).bind fun b4 => (bif b4.2 then some 90 else (F_categories_Name n b4.1 a4).bind fun r8 => (bif (r8.2 != 0) then some r8.2 else none)))
theorem ok_categories_Members (n : Nat) (a1 : Course) (a2 : List Starter) (a3 : Int) (a4 : Int) (r : Int) (h : F_categories_Members n a1 a2 a3 a4 = some r) :
    C Tryz.prog 16 [.agg (Course.cells a1), .rsl 8 (List.map Starter.cells a2), .int .i64 a3, .int .i64 a4] [] (fun a H => a = .tup [.nils, .int .i64 r] ∧ H = []) := by
  refine C.of_body Tryz.func16 rfl rfl rfl ?_
  refine TC.seq ?_
  refine TC.region ?_
  refine vH (OpH.box rfl rfl rfl rfl rfl) ?_
  refine WO.atV (x := (.ptr 0 0)) (H := [.cells 33 (Course.cells a1)]) rfl rfl ?_
  refine vV (x := .nils) (OpV.assign rfl rfl) ?_
  refine vV (x := (.int .i64 0)) (OpV.assign rfl rfl) ?_
  refine WO.nil ?_
  refine seqN ?_
  refine TC.seq ?_
  refine TC.seq ?_
  refine TC.region ?_
  refine vV (x := (.agg (Course.cells a1))) (OpV.loadA rfl Tryz.isAgg33 Tryz.sizeOf33 rfl (Pts.cells rfl rfl) rfl rfl) ?_
  obtain ⟨r1, hr1, h⟩ := bnd h
  refine WO.callD [] (OpC.fn Tryz.call26 rfl rfl rfl) (ok_typing_Course _ _ _ hr1) ?_
  rintro _ _ ⟨rfl, rfl⟩
  refine WO.atV (x := (.int .i64 r1)) (H := [.cells 33 (Course.cells a1)]) rfl rfl ?_
  refine vV (x := (.int .i64 r1)) (OpV.assign rfl rfl) ?_
  refine WO.nil ?_
  refine seqN ?_
  refine TC.seq ?_
  refine TC.region ?_
  refine vV (x := (.int .i64 r1)) (OpV.move rfl rfl) ?_
  refine vV (x := (.bool (r1 != 0))) (OpV.neq rfl rfl rfl) ?_
  refine WO.nil ?_
  refine seqN ?_
  refine TC.cond rfl (fun hc2 => ?_) (fun hc2 => ?_)
  · have h := ifT hc2 h
    refine TC.seq ?_
    refine TC.region ?_
    refine vV (x := (.int .i64 r1)) (OpV.move rfl rfl) ?_
    refine vV (x := .nils) (OpV.assign rfl rfl) ?_
    refine vV (x := (.int .i64 r1)) (OpV.assign rfl rfl) ?_
    refine WO.nil ?_
    refine seqN ?_
    refine TC.ret ?_
    refine seqR ?_
    obtain rfl := Option.some.inj h
    refine ⟨[(8, .nils), (9, .int .i64 r1)], [], _, ?_, ResOK.two rfl rfl rfl, rfl, rfl⟩
    exact Le.ren [] rfl rfl (by decide) ⟨rfl, rfl, trivial⟩
  have h := ifF hc2 h
  refine TC.skip ?_
  refine seqN ?_
  refine TC.seq ?_
  refine TC.seq ?_
  obtain ⟨b4, h5, h⟩ := bnd h
  refine TC.cut ([(1, .rsl 8 (List.map Starter.cells a2)), (2, .int .i64 a3), (3, .int .i64 a4), (4, .ptr 0 0), (8, .nils), (28, .bool b4.2)]) ([.cells 33 (Course.cells b4.1)]) ?_ (fun env H hle => ?_)
  ·
    refine TC.region ?_
    refine vV (x := (.int .i64 a3)) (OpV.move rfl rfl) ?_
    refine vV (x := (.bool (decide (a3 < 0)))) (OpV.lss rfl rfl rfl) ?_
    refine vV (x := (.bool (decide (a3 < 0)))) (OpV.move rfl rfl) ?_
    rcases bTF (decide (a3 < 0)) with hg6 | hg6
    · have h5 := ifT hg6 h5
      refine vS (gF hg6) ?_
      refine vS (gF hg6) ?_
      refine vS (gF hg6) ?_
      refine vS (gF hg6) ?_
      refine vS (gF hg6) ?_
      refine vV (x := (.bool true)) (OpV.pickT hg6) ?_
      refine WO.nil ?_
      obtain rfl := Option.some.inj h5
      refine cutN ?_
      exact Le.ren [0] rfl rfl (by decide) ⟨rfl, rfl, rfl, rfl, rfl, rfl, trivial⟩
    · have h5 := ifF hg6 h5
      refine vV (x := (.int .i64 a3)) (OpV.move rfl rfl) ?_ (gT hg6)
      refine vV (x := (.ptr 0 3)) (OpV.fieldP fa_33_3 rfl rfl) ?_ (gT hg6)
      refine vV (x := (.rsl 5 (List.map Distance.cells a1.Distances))) (OpV.load rfl Tryz.isAgg24 rfl (Pts.cells rfl rfl)) ?_ (gT hg6)
      refine vV (x := (.int .i64 (a1.Distances.length : Int))) (OpV.lenM Tryz.runUnderlying24) ?_ (gT hg6)
      refine vV (x := (.bool (decide ((a1.Distances.length : Int) ≤ a3)))) (OpV.geq rfl rfl rfl) ?_ (gT hg6)
      refine vV (x := (.bool (decide ((a1.Distances.length : Int) ≤ a3)))) (OpV.pickF hg6) ?_
      refine WO.nil ?_
      obtain rfl := Option.some.inj h5
      refine cutN ?_
      exact Le.ren [0] rfl rfl (by decide) ⟨rfl, rfl, rfl, rfl, rfl, rfl, trivial⟩
  refine seqN (TC.le hle ?_)
  refine TC.cond rfl (fun hc7 => ?_) (fun hc7 => ?_)
  · have h := ifT hc7 h
    refine TC.seq ?_
    refine TC.region ?_
    refine vV (x := .nils) (OpV.assign rfl rfl) ?_
    refine vV (x := (.int .i64 90)) (OpV.assign rfl rfl) ?_
    refine WO.nil ?_
    refine seqN ?_
    refine TC.ret ?_
    refine seqR ?_
    obtain rfl := Option.some.inj h
    refine ⟨[(8, .nils), (9, .int .i64 90)], [], _, ?_, ResOK.two rfl rfl rfl, rfl, rfl⟩
    exact Le.ren [] rfl rfl (by decide) ⟨rfl, rfl, trivial⟩
  have h := ifF hc7 h
  refine TC.skip ?_
  refine seqN ?_
  refine TC.seq ?_
  refine TC.seq ?_
  refine TC.region ?_
  refine vV (x := (.agg (Course.cells b4.1))) (OpV.loadA rfl Tryz.isAgg33 Tryz.sizeOf33 rfl (Pts.cells rfl rfl) rfl rfl) ?_
  refine vV (x := (.int .i64 a4)) (OpV.move rfl rfl) ?_
  obtain ⟨r8, hr8, h⟩ := bnd h
  refine WO.callD [] (OpC.fn Tryz.call14 rfl rfl rfl) (ok_categories_Name _ _ _ _ hr8) ?_
  rintro _ _ ⟨rfl, rfl⟩
  refine WO.atV (x := (.tup [.str r8.1, .int .i64 r8.2])) (H := [.cells 33 (Course.cells b4.1)]) rfl rfl ?_
  refine vV (x := (.tup [.str r8.1, .int .i64 r8.2])) (OpV.move rfl rfl) ?_
  refine vV (x := (.str r8.1)) (OpV.extract rfl rfl rfl) ?_
  refine vV (x := (.int .i64 r8.2)) (OpV.extract rfl rfl rfl) ?_
  refine vV (x := (.str r8.1)) (OpV.assign rfl rfl) ?_
  refine vV (x := (.int .i64 r8.2)) (OpV.assign rfl rfl) ?_
  refine WO.nil ?_
  refine seqN ?_
  refine TC.seq ?_
  refine TC.region ?_
  refine vV (x := (.int .i64 r8.2)) (OpV.move rfl rfl) ?_
  refine vV (x := (.bool (r8.2 != 0))) (OpV.neq rfl rfl rfl) ?_
  refine WO.nil ?_
  refine seqN ?_
  refine TC.cond rfl (fun hc9 => ?_) (fun hc9 => ?_)
  · have h := ifT hc9 h
    refine TC.seq ?_
    refine TC.region ?_
    refine vV (x := (.int .i64 r8.2)) (OpV.move rfl rfl) ?_
    refine vV (x := .nils) (OpV.assign rfl rfl) ?_
    refine vV (x := (.int .i64 r8.2)) (OpV.assign rfl rfl) ?_
    refine WO.nil ?_
    refine seqN ?_
    refine TC.ret ?_
    refine seqR ?_
    obtain rfl := Option.some.inj h
    refine ⟨[(8, .nils), (9, .int .i64 r8.2)], [], _, ?_, ResOK.two rfl rfl rfl, rfl, rfl⟩
    exact Le.ren [] rfl rfl (by decide) ⟨rfl, rfl, trivial⟩
  have h := ifF hc9 h
  refine TC.skip ?_
  refine seqN ?_
  refine TC.seq ?_
  refine TC.seq ?_
  cases h

/- stopwatch/stopwatchref29.Same -/
def F_stopwatchref29_Same_L1 (n : Nat) (a1 : List Int) (a2 : List Int) (s14 : Int) : Option (Ctl Int (Ctl Unit Bool)) :=
  (bif decide (s14 < (a1.length : Int)) then (idx a1 s14).bind fun x18 => (idx a2 s14).bind fun x19 => (bif (x18 != x19) then some (.done (.done false)) else some (.cont (IntKind.i64.wrap (s14 + 1)))) else some (.done (.cont ())))
def F_stopwatchref29_Same (n : Nat) (a1 : List Int) (a2 : List Int) : Option Bool :=
  (bif ((a1.length : Int) != (a2.length : Int)) then some false else (iter (F_stopwatchref29_Same_L1 n a1 a2) n 0 : Option (Ctl Unit Bool)).bind fun b11 => match b11 with | .cont sb11 => (some true) | .done sb11 => some sb11)
theorem ok_stopwatchref29_Same (n : Nat) (a1 : List Int) (a2 : List Int) (r : Bool) (h : F_stopwatchref29_Same n a1 a2 = some r) :
    C Tryz.prog 11 [.rsl 1 (List.map (encI .i64) a1), .rsl 1 (List.map (encI .i64) a2)] [] (fun a H => a = .bool r ∧ H = []) := by
  refine C.of_body Tryz.func11 rfl rfl rfl ?_
  refine TC.seq ?_
  refine TC.region ?_
  refine vV (x := (.bool false)) (OpV.assign rfl rfl) ?_
  refine WO.nil ?_
  refine seqN ?_
  refine TC.seq ?_
  refine TC.seq ?_
  refine TC.region ?_
  refine vV (x := (.rsl 1 (List.map (encI .i64) a1))) (OpV.move rfl rfl) ?_
  refine vV (x := (.int .i64 (a1.length : Int))) (OpV.lenM Tryz.runUnderlying39) ?_
  refine vV (x := (.rsl 1 (List.map (encI .i64) a2))) (OpV.move rfl rfl) ?_
  refine vV (x := (.int .i64 (a2.length : Int))) (OpV.lenM Tryz.runUnderlying39) ?_
  refine vV (x := (.bool ((a1.length : Int) != (a2.length : Int)))) (OpV.neq rfl rfl rfl) ?_
  refine WO.nil ?_
  refine seqN ?_
  refine TC.cond rfl (fun hc1 => ?_) (fun hc1 => ?_)
  · have h := ifT hc1 h
    refine TC.seq ?_
    refine TC.region ?_
    refine vV (x := (.bool false)) (OpV.assign rfl rfl) ?_
    refine WO.nil ?_
    refine seqN ?_
    refine TC.ret ?_
    refine seqR ?_
    obtain rfl := Option.some.inj h
    refine ⟨[(4, .bool false)], [], _, ?_, ResOK.one rfl rfl, rfl, rfl⟩
    exact Le.ren [] rfl rfl (by decide) ⟨rfl, trivial⟩
  have h := ifF hc1 h
  refine TC.skip ?_
  refine seqN ?_
  refine TC.seq ?_
  refine TC.seq ?_
  refine TC.region ?_
  refine vV (x := (.int .i64 0)) (OpV.assign rfl rfl) ?_
  refine WO.nil ?_
  refine seqN ?_
  obtain ⟨b11, h12, h⟩ := bnd h
  refine TC.cutE (b := b11) (fun sb11 => []) (fun sb11 => []) ?_ (fun sb11 env H hbe hle => ?_)
  ·
    refine TC.block ?_
    refine TC.loop (E := fun s14 => [(0, .rsl 1 (List.map (encI .i64) a1)), (1, .rsl 1 (List.map (encI .i64) a2)), (5, .int .i64 s14)]) (Hp := fun s14 => []) h12 ?_ ?_
    ·
      exact Le.ren [] rfl rfl (by decide) ⟨rfl, rfl, rfl, trivial⟩
    intro s14 d15 h16 hb13
    refine TC.seq ?_
    refine TC.seq ?_
    refine TC.region ?_
    refine vV (x := (.int .i64 s14)) (OpV.move rfl rfl) ?_
    refine vV (x := (.rsl 1 (List.map (encI .i64) a1))) (OpV.move rfl rfl) ?_
    refine vV (x := (.int .i64 (a1.length : Int))) (OpV.lenM Tryz.runUnderlying39) ?_
    refine vV (x := (.bool (decide (s14 < (a1.length : Int))))) (OpV.lss rfl rfl rfl) ?_
    refine WO.nil ?_
    refine seqN ?_
    refine TC.condS rfl (fun hc17 => ?_) (fun hc17 => ?_)
    · have h16 := ifF hc17 h16
      refine TC.exit ?_
      refine seqX ?_
      refine loopX h16 ?_
      obtain rfl := hb13 _ (Option.some.inj h16).symm
      refine bloE ?_
      refine cutEN rfl ?_
      exact Le.ren [] rfl rfl (by decide) trivial
    have h16 := ifT hc17 h16
    refine TC.skip ?_
    refine seqN ?_
    refine TC.seq ?_
    refine TC.block ?_
    refine TC.seq ?_
    obtain ⟨x18, hx18, h16⟩ := bnd h16
    obtain ⟨x19, hx19, h16⟩ := bnd h16
    refine TC.draw 8 0 [17, 18, 19, 20, 21, 22, 23, 24] [0, 0, 0, 0, 0, 0, 0, 0] [false, false, false, false, false, false, false, false] [.rsl 1 (List.map (encI .i64) a1), .int .i64 s14, .rp [.int .i64 x18], .int .i64 x18, .rsl 1 (List.map (encI .i64) a2), .int .i64 s14, .rp [.int .i64 x19], .int .i64 x19] [[]] ([]) draws rfl rfl rfl rfl rfl rfl rfl rfl ?_ ?_
    · refine OblL.cons ?_ (OblL.cons ?_ (OblL.cons ?_ (OblL.cons ?_ (OblL.cons ?_ (OblL.cons ?_ (OblL.cons ?_ (OblL.cons ?_ (OblL.nil))))))))
      · refine OblL.stC ?_ (OblL.st0)
        · refine OblAt.mk _ [(0, .rsl 1 (List.map (encI .i64) a1))] 17 (.rsl 1 (List.map (encI .i64) a1)) rfl rfl rfl (SubE.old rfl rfl SubE.nil) ?_
          refine vV (x := (.rsl 1 (List.map (encI .i64) a1))) (OpV.move rfl rfl) ?_
          exact WO.nil Post1.mk
      · refine OblL.stC ?_ (OblL.st0)
        · refine OblAt.mk _ [(5, .int .i64 s14)] 18 (.int .i64 s14) rfl rfl rfl (SubE.old rfl rfl SubE.nil) ?_
          refine vV (x := (.int .i64 s14)) (OpV.move rfl rfl) ?_
          exact WO.nil Post1.mk
      · refine OblL.stC ?_ (OblL.st0)
        · refine OblAt.mk _ [(17, .rsl 1 (List.map (encI .i64) a1)), (18, .int .i64 s14)] 19 (.rp [.int .i64 x18]) rfl rfl rfl (SubE.dep 0 rfl rfl rfl (SubE.dep 1 rfl rfl rfl SubE.nil)) ?_
          refine vV (x := (.rp [.int .i64 x18])) (OpV.ixM (e := (encI .i64)) (v := x18) hx18 Tryz.runUnderlying39 Tryz.sizeOf3) ?_
          exact WO.nil Post1.mk
      · refine OblL.stC ?_ (OblL.st0)
        · refine OblAt.mk _ [(19, .rp [.int .i64 x18])] 20 (.int .i64 x18) rfl rfl rfl (SubE.dep 2 rfl rfl rfl SubE.nil) ?_
          refine vV (x := (.int .i64 x18)) (OpV.load rfl Tryz.isAgg3 rfl Pts.rp) ?_
          exact WO.nil Post1.mk
      · refine OblL.stC ?_ (OblL.st0)
        · refine OblAt.mk _ [(1, .rsl 1 (List.map (encI .i64) a2))] 21 (.rsl 1 (List.map (encI .i64) a2)) rfl rfl rfl (SubE.old rfl rfl SubE.nil) ?_
          refine vV (x := (.rsl 1 (List.map (encI .i64) a2))) (OpV.move rfl rfl) ?_
          exact WO.nil Post1.mk
      · refine OblL.stC ?_ (OblL.st0)
        · refine OblAt.mk _ [(5, .int .i64 s14)] 22 (.int .i64 s14) rfl rfl rfl (SubE.old rfl rfl SubE.nil) ?_
          refine vV (x := (.int .i64 s14)) (OpV.move rfl rfl) ?_
          exact WO.nil Post1.mk
      · refine OblL.stC ?_ (OblL.st0)
        · refine OblAt.mk _ [(21, .rsl 1 (List.map (encI .i64) a2)), (22, .int .i64 s14)] 23 (.rp [.int .i64 x19]) rfl rfl rfl (SubE.dep 4 rfl rfl rfl (SubE.dep 5 rfl rfl rfl SubE.nil)) ?_
          refine vV (x := (.rp [.int .i64 x19])) (OpV.ixM (e := (encI .i64)) (v := x19) hx19 Tryz.runUnderlying39 Tryz.sizeOf3) ?_
          exact WO.nil Post1.mk
      · refine OblL.stC ?_ (OblL.st0)
        · refine OblAt.mk _ [(23, .rp [.int .i64 x19])] 24 (.int .i64 x19) rfl rfl rfl (SubE.dep 6 rfl rfl rfl SubE.nil) ?_
          refine vV (x := (.int .i64 x19)) (OpV.load rfl Tryz.isAgg3 rfl Pts.rp) ?_
          exact WO.nil Post1.mk
    refine vV (x := (.bool (x18 != x19))) (OpV.neq rfl rfl rfl) ?_
    refine WO.nil ?_
    refine seqN ?_
    refine TC.cond rfl (fun hc20 => ?_) (fun hc20 => ?_)
    · have h16 := ifT hc20 h16
      refine TC.seq ?_
      refine TC.region ?_
      refine vV (x := (.bool false)) (OpV.assign rfl rfl) ?_
      refine WO.nil ?_
      refine seqN ?_
      refine TC.ret ?_
      refine bloR ?_
      refine seqR ?_
      refine loopR h16 ?_
      obtain rfl := hb13 _ (Option.some.inj h16).symm
      refine bloR ?_
      refine cutER ?_
      refine seqR ?_
      obtain rfl := Option.some.inj h
      refine ⟨[(4, .bool false)], [], _, ?_, ResOK.one rfl rfl, rfl, rfl⟩
      exact Le.ren [] rfl rfl (by decide) ⟨rfl, trivial⟩
    have h16 := ifF hc20 h16
    refine TC.skip ?_
    refine bloN ?_
    refine seqN ?_
    refine TC.region ?_
    refine vV (x := (.int .i64 s14)) (OpV.move rfl rfl) ?_
    refine vV (x := (.int .i64 (IntKind.i64.wrap (s14 + 1)))) (OpV.add rfl rfl rfl) ?_
    refine vV (x := (.int .i64 (IntKind.i64.wrap (s14 + 1)))) (OpV.assign rfl rfl) ?_
    refine WO.nil ?_
    refine loopN h16 ?_
    exact Le.ren [] rfl rfl (by decide) ⟨rfl, rfl, rfl, trivial⟩
  subst hbe
  refine seqN (TC.le hle ?_)
  refine TC.seq ?_
  refine TC.region ?_
  refine vV (x := (.bool true)) (OpV.assign rfl rfl) ?_
  refine WO.nil ?_
  refine seqN ?_
  refine TC.ret ?_
  obtain rfl := Option.some.inj h
  refine ⟨[(4, .bool true)], [], _, ?_, ResOK.one rfl rfl, rfl, rfl⟩
  exact Le.ren [] rfl rfl (by decide) ⟨rfl, trivial⟩

end Go.Sw
