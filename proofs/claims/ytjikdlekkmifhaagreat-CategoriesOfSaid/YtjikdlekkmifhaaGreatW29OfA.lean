/- The types of CategoriesOf and facts on them. -/
import Derived.Test.YtjikdlekkmifhaaGreatSwW
import Derived.Test.YtjikdlekkmifhaaGreatProg
set_option linter.unusedVariables false
set_option linter.unusedSimpArgs false
set_option maxRecDepth 100000
namespace Go.Sw
open Go.Proofs
theorem draws : Tryz.prog.follows .mixedOrders = true := by rfl
structure Faults where
  Misses : Int
  Strays : Int
  Window : Int
  Residual : Int
  Drift : Int
  deriving DecidableEq
def Faults.cells (x : Faults) : List A := [.int .i64 x.Misses, .int .i64 x.Strays, .int .i64 x.Window, .int .i64 x.Residual, .int .i64 x.Drift]
structure Mat where
  Name : List UInt8
  Kind : Int
  deriving DecidableEq
def Mat.cells (x : Mat) : List A := [.str x.Name, .int .i64 x.Kind]
structure Leg where
  From : Int
  To : Int
  Min : Int
  Max : Int
  deriving DecidableEq
def Leg.cells (x : Leg) : List A := [.int .i64 x.From, .int .i64 x.To, .int .i64 x.Min, .int .i64 x.Max]
structure Part where
  Mat : Int
  Laps : Int
  Parts : List Part
mutual
def Part.enc : Part → List A
  | ⟨x0, x1, x2⟩ => [.int .i64 x0, .int .i64 x1, .rsl 3 (Part.encs x2)]
def Part.encs : List Part → List (List A)
  | [] => []
  | x :: l => Part.enc x :: Part.encs l
end
theorem Part.encs_eq (l : List Part) : Part.encs l = List.map Part.enc l := by induction l with | nil => simp [Part.encs] | cons x l h => simp [Part.encs, h]
def Part.cells (x : Part) : List A := [.int .i64 x.Mat, .int .i64 x.Laps, .rsl 3 (List.map Part.enc x.Parts)]
theorem Part.enc_eq (x : Part) : Part.enc x = Part.cells x := by cases x; simp [Part.enc, Part.cells, Part.encs_eq]
structure Cutoff where
  Mat : Int
  Lap : Int
  Limit : Int
  deriving DecidableEq
def Cutoff.cells (x : Cutoff) : List A := [.int .i64 x.Mat, .int .i64 x.Lap, .int .i64 x.Limit]
structure Distance where
  Name : List UInt8
  Route : List Part
  Timing : Int
  Cutoffs : List Cutoff
  Extra : Int
def Distance.cells (x : Distance) : List A := [.str x.Name, .rsl 3 (List.map Part.enc x.Route), .int .i64 x.Timing, .rsl 3 (List.map Cutoff.cells x.Cutoffs), .int .i64 x.Extra]
structure Wave where
  Name : List UInt8
  Gun : Int
  deriving DecidableEq
def Wave.cells (x : Wave) : List A := [.str x.Name, .int .i64 x.Gun]
structure Offence where
  Name : List UInt8
  Time : Int
  Laps : Int
  Out : Bool
  deriving DecidableEq
def Offence.cells (x : Offence) : List A := [.str x.Name, .int .i64 x.Time, .int .i64 x.Laps, .bool x.Out]
structure Category where
  Name : List UInt8
  From : Int
  To : Int
  deriving DecidableEq
def Category.cells (x : Category) : List A := [.str x.Name, .int .i64 x.From, .int .i64 x.To]
structure Prize where
  Distance : Int
  Category : Int
  Rank : Int
  Amount : Int
  deriving DecidableEq
def Prize.cells (x : Prize) : List A := [.int .i64 x.Distance, .int .i64 x.Category, .int .i64 x.Rank, .int .i64 x.Amount]
structure Cond where
  Kind : Int
  Var : Int
  N : Int
  Parts : List Cond
mutual
def Cond.enc : Cond → List A
  | ⟨x0, x1, x2, x3⟩ => [.int .i64 x0, .int .i64 x1, .int .i64 x2, .rsl 4 (Cond.encs x3)]
def Cond.encs : List Cond → List (List A)
  | [] => []
  | x :: l => Cond.enc x :: Cond.encs l
end
theorem Cond.encs_eq (l : List Cond) : Cond.encs l = List.map Cond.enc l := by induction l with | nil => simp [Cond.encs] | cons x l h => simp [Cond.encs, h]
def Cond.cells (x : Cond) : List A := [.int .i64 x.Kind, .int .i64 x.Var, .int .i64 x.N, .rsl 4 (List.map Cond.enc x.Parts)]
theorem Cond.enc_eq (x : Cond) : Cond.enc x = Cond.cells x := by cases x; simp [Cond.enc, Cond.cells, Cond.encs_eq]
structure Step where
  Kind : Int
  By : Int
  Cond : Cond
  Then : List Step
  Else : List Step
mutual
def Step.enc : Step → List A
  | ⟨x0, x1, x2, x3, x4⟩ => [.int .i64 x0, .int .i64 x1, .int .i64 x2.Kind, .int .i64 x2.Var, .int .i64 x2.N, .rsl 4 (List.map Cond.enc x2.Parts), .rsl 8 (Step.encs x3), .rsl 8 (Step.encs x4)]
def Step.encs : List Step → List (List A)
  | [] => []
  | x :: l => Step.enc x :: Step.encs l
end
theorem Step.encs_eq (l : List Step) : Step.encs l = List.map Step.enc l := by induction l with | nil => simp [Step.encs] | cons x l h => simp [Step.encs, h]
def Step.cells (x : Step) : List A := [.int .i64 x.Kind, .int .i64 x.By, .int .i64 x.Cond.Kind, .int .i64 x.Cond.Var, .int .i64 x.Cond.N, .rsl 4 (List.map Cond.enc x.Cond.Parts), .rsl 8 (List.map Step.enc x.Then), .rsl 8 (List.map Step.enc x.Else)]
theorem Step.enc_eq (x : Step) : Step.enc x = Step.cells x := by cases x; simp [Step.enc, Step.cells, Step.encs_eq]
structure Course where
  Name : List UInt8
  Mats : List Mat
  Legs : List Leg
  Distances : List Distance
  Waves : List Wave
  Offences : List Offence
  Categories : List Category
  Prizes : List Prize
  Ties : List Step
  Faults : Faults
  Fee : Int
  Deadline : Int
def Course.cells (x : Course) : List A := [.str x.Name, .rsl 2 (List.map Mat.cells x.Mats), .rsl 4 (List.map Leg.cells x.Legs), .rsl 5 (List.map Distance.cells x.Distances), .rsl 2 (List.map Wave.cells x.Waves), .rsl 4 (List.map Offence.cells x.Offences), .rsl 3 (List.map Category.cells x.Categories), .rsl 4 (List.map Prize.cells x.Prizes), .rsl 8 (List.map Step.enc x.Ties), .int .i64 x.Faults.Misses, .int .i64 x.Faults.Strays, .int .i64 x.Faults.Window, .int .i64 x.Faults.Residual, .int .i64 x.Faults.Drift, .int .i64 x.Fee, .int .i64 x.Deadline]
structure Starter where
  Bib : Int
  Distance : Int
  Wave : Int
  Slot : Int
  Age : Int
  Chip : Int
  Team : Int
  Lot : Int
  deriving DecidableEq
def Starter.cells (x : Starter) : List A := [.int .i64 x.Bib, .int .i64 x.Distance, .int .i64 x.Wave, .int .i64 x.Slot, .int .i64 x.Age, .int .i64 x.Chip, .int .i64 x.Team, .int .i64 x.Lot]
structure categories_table where
  distance : Int
  category : Int
  deriving DecidableEq
def categories_table.cells (x : categories_table) : List A := [.int .i64 x.distance, .int .i64 x.category]
structure typing_ends where
  from_ : Int
  to_ : Int
  deriving DecidableEq
def typing_ends.cells (x : typing_ends) : List A := [.int .i64 x.from_, .int .i64 x.to_]
structure typing_place where
  distance : Int
  category : Int
  rank : Int
  deriving DecidableEq
def typing_place.cells (x : typing_place) : List A := [.int .i64 x.distance, .int .i64 x.category, .int .i64 x.rank]
structure typing_step where
  Step : Step
def typing_step.cells (x : typing_step) : List A := [.int .i64 x.Step.Kind, .int .i64 x.Step.By, .int .i64 x.Step.Cond.Kind, .int .i64 x.Step.Cond.Var, .int .i64 x.Step.Cond.N, .rsl 4 (List.map Cond.enc x.Step.Cond.Parts), .rsl 8 (List.map Step.enc x.Step.Then), .rsl 8 (List.map Step.enc x.Step.Else)]
theorem el_24 : ElemTy Tryz.prog 24 62 5 := ⟨Tryz.runUnderlying24, Tryz.sizeOf62, ⟨_, Tryz.zeroValue62, rfl⟩, ⟨_, Tryz.typeInfo62, by decide⟩⟩
theorem pl_52 : Places Tryz.prog 52 [(0, 1), (1, 1), (2, 1)] := ⟨_, Tryz.runUnderlying52, (PL.cons Tryz.sizeOf9 (PL.cons Tryz.sizeOf3 (PL.cons Tryz.sizeOf3 PL.nil)))⟩
theorem el_27 : ElemTy Tryz.prog 27 52 3 := ⟨Tryz.runUnderlying27, Tryz.sizeOf52, ⟨_, Tryz.zeroValue52, rfl⟩, ⟨_, Tryz.typeInfo52, by decide⟩⟩
theorem pl_33 : Places Tryz.prog 33 [(0, 1), (1, 1), (2, 1), (3, 1), (4, 1), (5, 1), (6, 1), (7, 1), (8, 1), (9, 5), (14, 1), (15, 1)] := ⟨_, Tryz.runUnderlying33, (PL.cons Tryz.sizeOf9 (PL.cons Tryz.sizeOf22 (PL.cons Tryz.sizeOf23 (PL.cons Tryz.sizeOf24 (PL.cons Tryz.sizeOf25 (PL.cons Tryz.sizeOf26 (PL.cons Tryz.sizeOf27 (PL.cons Tryz.sizeOf28 (PL.cons Tryz.sizeOf29 (PL.cons Tryz.sizeOf31 (PL.cons Tryz.sizeOf3 (PL.cons Tryz.sizeOf3 PL.nil))))))))))))⟩
theorem fa_33_6 : FieldAt Tryz.prog 33 6 6 1 := ⟨_, _, Tryz.runUnderlying33, rfl, rfl, Tryz.sizeOf27, by decide⟩
theorem fa_52_0 : FieldAt Tryz.prog 52 0 0 1 := ⟨_, _, Tryz.runUnderlying52, rfl, rfl, Tryz.sizeOf9, by decide⟩
theorem fs_76 : Tryz.prog.underlying 76 = some (.struct (Tryz.prog.fieldsOf 76)) := by kernel_rfl
theorem ns_76 : Tryz.prog.stoodInHeld 76 = false := by kernel_rfl
theorem key_76 : KeyTy Tryz.prog 76 (fun x => A.agg (categories_table.cells x)) := by
  refine KeyTy.struct fs_76 (fun _ => rfl) (fun x y h => ?_) (fun w em x => ?_) (fun w x y => ?_) (fun x => ?_)
  · cases x; cases y
    simpa [valA, valL, categories_table.cells] using h
  · simp only [valA, valL, categories_table.cells]
    rw [show (10000 : Nat) = 9998 + 1 + 1 from rfl]
    generalize (9998 : Nat) = d
    simp [Instr.checkKey, Tryz.runUnderlying76, Tryz.runUnderlying3, Result.andThen, Tryz.sizeOf3, Tryz.isAgg3, part]
  · have u3 := Tryz.underlying3
    have a3 := Tryz.isAgg3
    have z3 := Tryz.sizeOf3
    simp only [valA, valL, categories_table.cells, Op.equal, Op.maxDepth]
    rw [show (10000 : Nat) = 9999 + 1 from rfl, run_equalIn_agg w 9999 76 _ _ fs_76 ns_76]
    simp only [Program.fieldsOf, Tryz.underlying76]
    go_simp
    cases x; cases y
    simp
    repeat' split
    all_goals simp_all
  · simp [valA, valL, categories_table.cells, Instr.sameBits]
theorem fa_42_1 : FieldAt Tryz.prog 42 1 1 1 := ⟨_, _, Tryz.runUnderlying42, rfl, rfl, Tryz.sizeOf3, by decide⟩
theorem fa_33_3 : FieldAt Tryz.prog 33 3 3 1 := ⟨_, _, Tryz.runUnderlying33, rfl, rfl, Tryz.sizeOf24, by decide⟩
theorem fa_52_1 : FieldAt Tryz.prog 52 1 1 1 := ⟨_, _, Tryz.runUnderlying52, rfl, rfl, Tryz.sizeOf3, by decide⟩
theorem fa_42_4 : FieldAt Tryz.prog 42 4 4 1 := ⟨_, _, Tryz.runUnderlying42, rfl, rfl, Tryz.sizeOf3, by decide⟩
theorem fa_52_2 : FieldAt Tryz.prog 52 2 2 1 := ⟨_, _, Tryz.runUnderlying52, rfl, rfl, Tryz.sizeOf3, by decide⟩
theorem el_39 : ElemTy Tryz.prog 39 3 1 := ⟨Tryz.runUnderlying39, Tryz.sizeOf3, ⟨_, Tryz.zeroValue3, rfl⟩, ⟨_, Tryz.typeInfo3, by decide⟩⟩
theorem pl_76 : Places Tryz.prog 76 [(0, 1), (1, 1)] := ⟨_, Tryz.runUnderlying76, (PL.cons Tryz.sizeOf3 (PL.cons Tryz.sizeOf3 PL.nil))⟩
theorem el_77 : ElemTy Tryz.prog 77 76 2 := ⟨Tryz.runUnderlying77, Tryz.sizeOf76, ⟨_, Tryz.zeroValue76, rfl⟩, ⟨_, Tryz.typeInfo76, by decide⟩⟩
theorem fa_76_0 : FieldAt Tryz.prog 76 0 0 1 := ⟨_, _, Tryz.runUnderlying76, rfl, rfl, Tryz.sizeOf3, by decide⟩
theorem fa_76_1 : FieldAt Tryz.prog 76 1 1 1 := ⟨_, _, Tryz.runUnderlying76, rfl, rfl, Tryz.sizeOf3, by decide⟩
theorem pl_42 : Places Tryz.prog 42 [(0, 1), (1, 1), (2, 1), (3, 1), (4, 1), (5, 1), (6, 1), (7, 1)] := ⟨_, Tryz.runUnderlying42, (PL.cons Tryz.sizeOf3 (PL.cons Tryz.sizeOf3 (PL.cons Tryz.sizeOf3 (PL.cons Tryz.sizeOf3 (PL.cons Tryz.sizeOf3 (PL.cons Tryz.sizeOf3 (PL.cons Tryz.sizeOf3 (PL.cons Tryz.sizeOf3 PL.nil))))))))⟩
theorem el_34 : ElemTy Tryz.prog 34 42 8 := ⟨Tryz.runUnderlying34, Tryz.sizeOf42, ⟨_, Tryz.zeroValue42, rfl⟩, ⟨_, Tryz.typeInfo42, by decide⟩⟩
theorem fa_33_1 : FieldAt Tryz.prog 33 1 1 1 := ⟨_, _, Tryz.runUnderlying33, rfl, rfl, Tryz.sizeOf22, by decide⟩
theorem fa_33_2 : FieldAt Tryz.prog 33 2 2 1 := ⟨_, _, Tryz.runUnderlying33, rfl, rfl, Tryz.sizeOf23, by decide⟩
theorem fa_33_4 : FieldAt Tryz.prog 33 4 4 1 := ⟨_, _, Tryz.runUnderlying33, rfl, rfl, Tryz.sizeOf25, by decide⟩
theorem fa_33_5 : FieldAt Tryz.prog 33 5 5 1 := ⟨_, _, Tryz.runUnderlying33, rfl, rfl, Tryz.sizeOf26, by decide⟩
theorem fa_33_7 : FieldAt Tryz.prog 33 7 7 1 := ⟨_, _, Tryz.runUnderlying33, rfl, rfl, Tryz.sizeOf28, by decide⟩
theorem fa_62_1 : FieldAt Tryz.prog 62 1 1 1 := ⟨_, _, Tryz.runUnderlying62, rfl, rfl, Tryz.sizeOf59, by decide⟩
theorem fa_85_2 : FieldAt Tryz.prog 85 2 2 1 := ⟨_, _, Tryz.runUnderlying85, rfl, rfl, Tryz.sizeOf59, by decide⟩
theorem fa_62_3 : FieldAt Tryz.prog 62 3 3 1 := ⟨_, _, Tryz.runUnderlying62, rfl, rfl, Tryz.sizeOf60, by decide⟩
theorem fa_33_0 : FieldAt Tryz.prog 33 0 0 1 := ⟨_, _, Tryz.runUnderlying33, rfl, rfl, Tryz.sizeOf9, by decide⟩
theorem fa_33_9 : FieldAt Tryz.prog 33 9 9 5 := ⟨_, _, Tryz.runUnderlying33, rfl, rfl, Tryz.sizeOf31, by decide⟩
theorem fa_107_1 : FieldAt Tryz.prog 107 1 1 1 := ⟨_, _, Tryz.runUnderlying107, rfl, rfl, Tryz.sizeOf3, by decide⟩
theorem fa_90_0 : FieldAt Tryz.prog 90 0 0 1 := ⟨_, _, Tryz.runUnderlying90, rfl, rfl, Tryz.sizeOf3, by decide⟩
theorem fa_90_1 : FieldAt Tryz.prog 90 1 1 1 := ⟨_, _, Tryz.runUnderlying90, rfl, rfl, Tryz.sizeOf3, by decide⟩
theorem fa_90_2 : FieldAt Tryz.prog 90 2 2 1 := ⟨_, _, Tryz.runUnderlying90, rfl, rfl, Tryz.sizeOf3, by decide⟩
theorem fa_90_3 : FieldAt Tryz.prog 90 3 3 1 := ⟨_, _, Tryz.runUnderlying90, rfl, rfl, Tryz.sizeOf3, by decide⟩
theorem fs_92 : Tryz.prog.underlying 92 = some (.struct (Tryz.prog.fieldsOf 92)) := by kernel_rfl
theorem ns_92 : Tryz.prog.stoodInHeld 92 = false := by kernel_rfl
theorem key_92 : KeyTy Tryz.prog 92 (fun x => A.agg (typing_ends.cells x)) := by
  refine KeyTy.struct fs_92 (fun _ => rfl) (fun x y h => ?_) (fun w em x => ?_) (fun w x y => ?_) (fun x => ?_)
  · cases x; cases y
    simpa [valA, valL, typing_ends.cells] using h
  · simp only [valA, valL, typing_ends.cells]
    rw [show (10000 : Nat) = 9998 + 1 + 1 from rfl]
    generalize (9998 : Nat) = d
    simp [Instr.checkKey, Tryz.runUnderlying92, Tryz.runUnderlying3, Result.andThen, Tryz.sizeOf3, Tryz.isAgg3, part]
  · have u3 := Tryz.underlying3
    have a3 := Tryz.isAgg3
    have z3 := Tryz.sizeOf3
    simp only [valA, valL, typing_ends.cells, Op.equal, Op.maxDepth]
    rw [show (10000 : Nat) = 9999 + 1 from rfl, run_equalIn_agg w 9999 92 _ _ fs_92 ns_92]
    simp only [Program.fieldsOf, Tryz.underlying92]
    go_simp
    cases x; cases y
    simp
    repeat' split
    all_goals simp_all
  · simp [valA, valL, typing_ends.cells, Instr.sameBits]
theorem pl_92 : Places Tryz.prog 92 [(0, 1), (1, 1)] := ⟨_, Tryz.runUnderlying92, (PL.cons Tryz.sizeOf3 (PL.cons Tryz.sizeOf3 PL.nil))⟩
theorem fa_62_2 : FieldAt Tryz.prog 62 2 2 1 := ⟨_, _, Tryz.runUnderlying62, rfl, rfl, Tryz.sizeOf3, by decide⟩
theorem fa_62_4 : FieldAt Tryz.prog 62 4 4 1 := ⟨_, _, Tryz.runUnderlying62, rfl, rfl, Tryz.sizeOf3, by decide⟩
theorem fa_85_1 : FieldAt Tryz.prog 85 1 1 1 := ⟨_, _, Tryz.runUnderlying85, rfl, rfl, Tryz.sizeOf3, by decide⟩
theorem fa_85_0 : FieldAt Tryz.prog 85 0 0 1 := ⟨_, _, Tryz.runUnderlying85, rfl, rfl, Tryz.sizeOf3, by decide⟩
theorem fa_122_0 : FieldAt Tryz.prog 122 0 0 1 := ⟨_, _, Tryz.runUnderlying122, rfl, rfl, Tryz.sizeOf3, by decide⟩
theorem fa_122_1 : FieldAt Tryz.prog 122 1 1 1 := ⟨_, _, Tryz.runUnderlying122, rfl, rfl, Tryz.sizeOf3, by decide⟩
theorem fa_122_2 : FieldAt Tryz.prog 122 2 2 1 := ⟨_, _, Tryz.runUnderlying122, rfl, rfl, Tryz.sizeOf3, by decide⟩
theorem fa_109_1 : FieldAt Tryz.prog 109 1 1 1 := ⟨_, _, Tryz.runUnderlying109, rfl, rfl, Tryz.sizeOf3, by decide⟩
theorem fa_111_3 : FieldAt Tryz.prog 111 3 3 1 := ⟨_, _, Tryz.runUnderlying111, rfl, rfl, Tryz.sizeOf4, by decide⟩
theorem fa_111_1 : FieldAt Tryz.prog 111 1 1 1 := ⟨_, _, Tryz.runUnderlying111, rfl, rfl, Tryz.sizeOf3, by decide⟩
theorem fa_111_2 : FieldAt Tryz.prog 111 2 2 1 := ⟨_, _, Tryz.runUnderlying111, rfl, rfl, Tryz.sizeOf3, by decide⟩
theorem fa_117_0 : FieldAt Tryz.prog 117 0 0 1 := ⟨_, _, Tryz.runUnderlying117, rfl, rfl, Tryz.sizeOf3, by decide⟩
theorem fa_117_1 : FieldAt Tryz.prog 117 1 1 1 := ⟨_, _, Tryz.runUnderlying117, rfl, rfl, Tryz.sizeOf3, by decide⟩
theorem fa_117_2 : FieldAt Tryz.prog 117 2 2 1 := ⟨_, _, Tryz.runUnderlying117, rfl, rfl, Tryz.sizeOf3, by decide⟩
theorem fa_117_3 : FieldAt Tryz.prog 117 3 3 1 := ⟨_, _, Tryz.runUnderlying117, rfl, rfl, Tryz.sizeOf3, by decide⟩
theorem fs_162 : Tryz.prog.underlying 162 = some (.struct (Tryz.prog.fieldsOf 162)) := by kernel_rfl
theorem ns_162 : Tryz.prog.stoodInHeld 162 = false := by kernel_rfl
theorem key_162 : KeyTy Tryz.prog 162 (fun x => A.agg (typing_place.cells x)) := by
  refine KeyTy.struct fs_162 (fun _ => rfl) (fun x y h => ?_) (fun w em x => ?_) (fun w x y => ?_) (fun x => ?_)
  · cases x; cases y
    simpa [valA, valL, typing_place.cells] using h
  · simp only [valA, valL, typing_place.cells]
    rw [show (10000 : Nat) = 9998 + 1 + 1 from rfl]
    generalize (9998 : Nat) = d
    simp [Instr.checkKey, Tryz.runUnderlying162, Tryz.runUnderlying3, Result.andThen, Tryz.sizeOf3, Tryz.isAgg3, part]
  · have u3 := Tryz.underlying3
    have a3 := Tryz.isAgg3
    have z3 := Tryz.sizeOf3
    simp only [valA, valL, typing_place.cells, Op.equal, Op.maxDepth]
    rw [show (10000 : Nat) = 9999 + 1 from rfl, run_equalIn_agg w 9999 162 _ _ fs_162 ns_162]
    simp only [Program.fieldsOf, Tryz.underlying162]
    go_simp
    cases x; cases y
    simp
    repeat' split
    all_goals simp_all
  · simp [valA, valL, typing_place.cells, Instr.sameBits]
theorem pl_162 : Places Tryz.prog 162 [(0, 1), (1, 1), (2, 1)] := ⟨_, Tryz.runUnderlying162, (PL.cons Tryz.sizeOf3 (PL.cons Tryz.sizeOf3 (PL.cons Tryz.sizeOf3 PL.nil)))⟩
theorem fa_31_0 : FieldAt Tryz.prog 31 0 0 1 := ⟨_, _, Tryz.runUnderlying31, rfl, rfl, Tryz.sizeOf3, by decide⟩
theorem fa_31_1 : FieldAt Tryz.prog 31 1 1 1 := ⟨_, _, Tryz.runUnderlying31, rfl, rfl, Tryz.sizeOf3, by decide⟩
theorem fa_31_2 : FieldAt Tryz.prog 31 2 2 1 := ⟨_, _, Tryz.runUnderlying31, rfl, rfl, Tryz.sizeOf3, by decide⟩
theorem fa_31_3 : FieldAt Tryz.prog 31 3 3 1 := ⟨_, _, Tryz.runUnderlying31, rfl, rfl, Tryz.sizeOf3, by decide⟩
theorem fa_31_4 : FieldAt Tryz.prog 31 4 4 1 := ⟨_, _, Tryz.runUnderlying31, rfl, rfl, Tryz.sizeOf3, by decide⟩
theorem fa_33_10 : FieldAt Tryz.prog 33 10 14 1 := ⟨_, _, Tryz.runUnderlying33, rfl, rfl, Tryz.sizeOf3, by decide⟩
theorem fa_33_11 : FieldAt Tryz.prog 33 11 15 1 := ⟨_, _, Tryz.runUnderlying33, rfl, rfl, Tryz.sizeOf3, by decide⟩
theorem fa_33_8 : FieldAt Tryz.prog 33 8 8 1 := ⟨_, _, Tryz.runUnderlying33, rfl, rfl, Tryz.sizeOf29, by decide⟩
theorem pl_202 : Places Tryz.prog 202 [(0, 8)] := ⟨_, Tryz.runUnderlying202, (PL.cons Tryz.sizeOf127 PL.nil)⟩
theorem el_165 : ElemTy Tryz.prog 165 199 1 := ⟨Tryz.runUnderlying165, Tryz.sizeOf199, ⟨_, Tryz.zeroValue199, rfl⟩, ⟨_, Tryz.typeInfo199, by decide⟩⟩
theorem el_96 : ElemTy Tryz.prog 96 68 1 := ⟨Tryz.runUnderlying96, Tryz.sizeOf68, ⟨_, Tryz.zeroValue68, rfl⟩, ⟨_, Tryz.typeInfo68, by decide⟩⟩
def lay_sortK_33_ren : Go.Shelf.Ren := ⟨fun | 6 => 33 | 15 => 59 | 14 => 60 | 28 => 125 | 29 => 126 | 20 => 127 | 21 => 128 | 22 => 129 | 23 => 130 | 24 => 131 | 25 => 132 | 26 => 133 | 27 => 134 | 46 => 166 | 47 => 162 | 48 => 163 | 49 => 167 | 50 => 168 | 57 => 185 | n => n, fun | 22 => 77 | 24 => 76 | 25 => 81 | 3 => 3 | 39 => 55 | 0 => 0 | 53 => 180 | 55 => 182 | 4 => 4 | 46 => 172 | 45 => 171 | 50 => 177 | 5 => 5 | 9 => 9 | 66 => 204 | 70 => 208 | 76 => 226 | 77 => 86 | n => n, fun | n => n⟩
theorem lay_sortK_33 : Go.Proofs.SlLaysF0.n6 Tryz.prog lay_sortK_33_ren := {
  mixed := by kernel_rfl
  f6 := ⟨Tryz.f33.name, by decide, Tryz.func33.trans (congrArg some (by kernel_rfl))⟩
  f14 := ⟨Tryz.f60.name, by decide, Tryz.func60.trans (congrArg some (by kernel_rfl))⟩
  f15 := Tryz.func59.trans (congrArg some (by kernel_rfl))
  f20 := ⟨Tryz.f127.name, by decide, Tryz.func127.trans (congrArg some (by kernel_rfl))⟩
  f21 := ⟨Tryz.f128.name, by decide, Tryz.func128.trans (congrArg some (by kernel_rfl))⟩
  f22 := ⟨Tryz.f129.name, by decide, Tryz.func129.trans (congrArg some (by kernel_rfl))⟩
  f23 := ⟨Tryz.f130.name, by decide, Tryz.func130.trans (congrArg some (by kernel_rfl))⟩
  f24 := ⟨Tryz.f131.name, by decide, Tryz.func131.trans (congrArg some (by kernel_rfl))⟩
  f25 := ⟨Tryz.f132.name, by decide, Tryz.func132.trans (congrArg some (by kernel_rfl))⟩
  f26 := ⟨Tryz.f133.name, by decide, Tryz.func133.trans (congrArg some (by kernel_rfl))⟩
  f27 := ⟨Tryz.f134.name, by decide, Tryz.func134.trans (congrArg some (by kernel_rfl))⟩
  f28 := Tryz.func125.trans (congrArg some (by kernel_rfl))
  f29 := Tryz.func126.trans (congrArg some (by kernel_rfl))
  f46 := ⟨Tryz.f166.name, by decide, Tryz.func166.trans (congrArg some (by kernel_rfl))⟩
  f47 := Tryz.func162.trans (congrArg some (by kernel_rfl))
  f48 := Tryz.func163.trans (congrArg some (by kernel_rfl))
  f49 := ⟨Tryz.f167.name, by decide, Tryz.func167.trans (congrArg some (by kernel_rfl))⟩
  f50 := ⟨Tryz.f168.name, by decide, Tryz.func168.trans (congrArg some (by kernel_rfl))⟩
  f57 := ⟨Tryz.f185.name, by decide, Tryz.func185.trans (congrArg some (by kernel_rfl))⟩
  t0 := Tryz.underlying0
  a0 := Tryz.isAgg0
  z0 := Tryz.sizeOf0
  v0 := Tryz.zeroValue0
  t3 := Tryz.underlying3
  a3 := Tryz.isAgg3
  z3 := Tryz.sizeOf3
  v3 := Tryz.zeroValue3
  t4 := Tryz.underlying4
  a4 := Tryz.isAgg4
  z4 := Tryz.sizeOf4
  v4 := Tryz.zeroValue4
  t5 := Tryz.underlying5
  a5 := Tryz.isAgg5
  z5 := Tryz.sizeOf5
  v5 := Tryz.zeroValue5
  t9 := Tryz.underlying9
  a9 := Tryz.isAgg9
  z9 := Tryz.sizeOf9
  v9 := Tryz.zeroValue9
  t22 := Tryz.underlying77
  a22 := Tryz.isAgg77
  z22 := Tryz.sizeOf77
  v22 := Tryz.zeroValue77
  t25 := Tryz.underlying81
  a25 := Tryz.isAgg81
  z25 := Tryz.sizeOf81
  v25 := Tryz.zeroValue81
  t39 := Tryz.underlying55
  a39 := Tryz.isAgg55
  z39 := Tryz.sizeOf55
  v39 := Tryz.zeroValue55
  t45 := Tryz.underlying171
  a45 := Tryz.isAgg171
  z45 := Tryz.sizeOf171
  v45 := Tryz.zeroValue171
  t46 := Tryz.underlying172
  a46 := Tryz.isAgg172
  z46 := Tryz.sizeOf172
  v46 := Tryz.zeroValue172
  t50 := Tryz.underlying177
  a50 := Tryz.isAgg177
  z50 := Tryz.sizeOf177
  v50 := Tryz.zeroValue177
  t53 := Tryz.underlying180
  a53 := Tryz.isAgg180
  z53 := Tryz.sizeOf180
  v53 := Tryz.zeroValue180
  t55 := Tryz.underlying182
  a55 := Tryz.isAgg182
  z55 := Tryz.sizeOf182
  v55 := Tryz.zeroValue182
  t66 := Tryz.underlying204
  a66 := Tryz.isAgg204
  z66 := Tryz.sizeOf204
  v66 := Tryz.zeroValue204
  t70 := Tryz.underlying208
  a70 := Tryz.isAgg208
  z70 := Tryz.sizeOf208
  v70 := Tryz.zeroValue208
  t76 := Tryz.underlying226
  a76 := Tryz.isAgg226
  z76 := Tryz.sizeOf226
  v76 := Tryz.zeroValue226
  t77 := Tryz.underlying86
  a77 := Tryz.isAgg86
  z77 := Tryz.sizeOf86
  v77 := Tryz.zeroValue86 }


end Go.Sw
