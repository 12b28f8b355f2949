/- The types of CategoriesTables and facts on them. -/
import Derived.Test.YtjikdlekkmifhaaGreatSxD
import Derived.Test.YtjikdlekkmifhaaGreatProg
set_option linter.unusedVariables false
set_option linter.unusedSimpArgs false
set_option maxRecDepth 100000
namespace Go.Sw
open Go.Proofs Tryz
theorem draws : prog.follows .mixedOrders = true := by rfl
theorem gp_law {W : World} (h : W.ShapedOpen prog) : GP W := shaped_int (t := 3) (z := .int .i64 0) h rfl (by kernel_rfl) (by kernel_rfl) (by kernel_rfl) underlying3
structure Faults where
  Misses : Int
  Strays : Int
  Window : Int
  Residual : Int
  Drift : Int
  deriving DecidableEq
def Faults.c (x : Faults) : List A := [.int .i64 x.Misses, .int .i64 x.Strays, .int .i64 x.Window, .int .i64 x.Residual, .int .i64 x.Drift]
structure Mat where
  Name : List UInt8
  Kind : Int
  deriving DecidableEq
def Mat.c (x : Mat) : List A := [.str x.Name, .int .i64 x.Kind]
structure Leg where
  From : Int
  To : Int
  Min : Int
  Max : Int
  deriving DecidableEq
def Leg.c (x : Leg) : List A := [.int .i64 x.From, .int .i64 x.To, .int .i64 x.Min, .int .i64 x.Max]
structure Part where
  Mat : Int
  Laps : Int
  Parts : List Part
mutual
def Part.enc : Part → List A
  | ⟨x0, x1, x2⟩ => [.int .i64 x0, .int .i64 x1, .rsl 3 (Part.encs x2)]
def Part.encs : List Part → List (List A)
  | [] => []
  | x :: l => Part.enc x :: Part.encs l
end
theorem Part.encs_eq (l : List Part) : Part.encs l = List.map Part.enc l := by induction l with | nil => simp [Part.encs] | cons x l h => simp [Part.encs, h]
def Part.c (x : Part) : List A := [.int .i64 x.Mat, .int .i64 x.Laps, .rsl 3 (List.map Part.enc x.Parts)]
theorem Part.enc_eq (x : Part) : Part.enc x = Part.c x := by cases x; simp [Part.enc, Part.c, Part.encs_eq]
structure Cutoff where
  Mat : Int
  Lap : Int
  Limit : Int
  deriving DecidableEq
def Cutoff.c (x : Cutoff) : List A := [.int .i64 x.Mat, .int .i64 x.Lap, .int .i64 x.Limit]
structure Distance where
  Name : List UInt8
  Route : List Part
  Timing : Int
  Cutoffs : List Cutoff
  Extra : Int
def Distance.c (x : Distance) : List A := [.str x.Name, .rsl 3 (List.map Part.enc x.Route), .int .i64 x.Timing, .rsl 3 (List.map Cutoff.c x.Cutoffs), .int .i64 x.Extra]
structure Wave where
  Name : List UInt8
  Gun : Int
  deriving DecidableEq
def Wave.c (x : Wave) : List A := [.str x.Name, .int .i64 x.Gun]
structure Offence where
  Name : List UInt8
  Time : Int
  Laps : Int
  Out : Bool
  deriving DecidableEq
def Offence.c (x : Offence) : List A := [.str x.Name, .int .i64 x.Time, .int .i64 x.Laps, .bool x.Out]
structure Category where
  Name : List UInt8
  From : Int
  To : Int
  deriving DecidableEq
def Category.c (x : Category) : List A := [.str x.Name, .int .i64 x.From, .int .i64 x.To]
structure Prize where
  Distance : Int
  Category : Int
  Rank : Int
  Amount : Int
  deriving DecidableEq
def Prize.c (x : Prize) : List A := [.int .i64 x.Distance, .int .i64 x.Category, .int .i64 x.Rank, .int .i64 x.Amount]
structure Cond where
  Kind : Int
  Var : Int
  N : Int
  Parts : List Cond
mutual
def Cond.enc : Cond → List A
  | ⟨x0, x1, x2, x3⟩ => [.int .i64 x0, .int .i64 x1, .int .i64 x2, .rsl 4 (Cond.encs x3)]
def Cond.encs : List Cond → List (List A)
  | [] => []
  | x :: l => Cond.enc x :: Cond.encs l
end
theorem Cond.encs_eq (l : List Cond) : Cond.encs l = List.map Cond.enc l := by induction l with | nil => simp [Cond.encs] | cons x l h => simp [Cond.encs, h]
def Cond.c (x : Cond) : List A := [.int .i64 x.Kind, .int .i64 x.Var, .int .i64 x.N, .rsl 4 (List.map Cond.enc x.Parts)]
theorem Cond.enc_eq (x : Cond) : Cond.enc x = Cond.c x := by cases x; simp [Cond.enc, Cond.c, Cond.encs_eq]
structure Step where
  Kind : Int
  By : Int
  Cond : Cond
  Then : List Step
  Else : List Step
mutual
def Step.enc : Step → List A
  | ⟨x0, x1, x2, x3, x4⟩ => [.int .i64 x0, .int .i64 x1, .int .i64 x2.Kind, .int .i64 x2.Var, .int .i64 x2.N, .rsl 4 (List.map Cond.enc x2.Parts), .rsl 8 (Step.encs x3), .rsl 8 (Step.encs x4)]
def Step.encs : List Step → List (List A)
  | [] => []
  | x :: l => Step.enc x :: Step.encs l
end
theorem Step.encs_eq (l : List Step) : Step.encs l = List.map Step.enc l := by induction l with | nil => simp [Step.encs] | cons x l h => simp [Step.encs, h]
def Step.c (x : Step) : List A := [.int .i64 x.Kind, .int .i64 x.By, .int .i64 x.Cond.Kind, .int .i64 x.Cond.Var, .int .i64 x.Cond.N, .rsl 4 (List.map Cond.enc x.Cond.Parts), .rsl 8 (List.map Step.enc x.Then), .rsl 8 (List.map Step.enc x.Else)]
theorem Step.enc_eq (x : Step) : Step.enc x = Step.c x := by cases x; simp [Step.enc, Step.c, Step.encs_eq]
structure Course where
  Name : List UInt8
  Mats : List Mat
  Legs : List Leg
  Distances : List Distance
  Waves : List Wave
  Offences : List Offence
  Categories : List Category
  Prizes : List Prize
  Ties : List Step
  Faults : Faults
  Fee : Int
  Deadline : Int
def Course.c (x : Course) : List A := [.str x.Name, .rsl 2 (List.map Mat.c x.Mats), .rsl 4 (List.map Leg.c x.Legs), .rsl 5 (List.map Distance.c x.Distances), .rsl 2 (List.map Wave.c x.Waves), .rsl 4 (List.map Offence.c x.Offences), .rsl 3 (List.map Category.c x.Categories), .rsl 4 (List.map Prize.c x.Prizes), .rsl 8 (List.map Step.enc x.Ties), .int .i64 x.Faults.Misses, .int .i64 x.Faults.Strays, .int .i64 x.Faults.Window, .int .i64 x.Faults.Residual, .int .i64 x.Faults.Drift, .int .i64 x.Fee, .int .i64 x.Deadline]
structure Starter where
  Bib : Int
  Distance : Int
  Wave : Int
  Slot : Int
  Age : Int
  Chip : Int
  Team : Int
  Lot : Int
  deriving DecidableEq
def Starter.c (x : Starter) : List A := [.int .i64 x.Bib, .int .i64 x.Distance, .int .i64 x.Wave, .int .i64 x.Slot, .int .i64 x.Age, .int .i64 x.Chip, .int .i64 x.Team, .int .i64 x.Lot]
structure categories_table where
  distance : Int
  category : Int
  deriving DecidableEq
def categories_table.c (x : categories_table) : List A := [.int .i64 x.distance, .int .i64 x.category]
structure typing_ends where
  from_ : Int
  to_ : Int
  deriving DecidableEq
def typing_ends.c (x : typing_ends) : List A := [.int .i64 x.from_, .int .i64 x.to_]
structure typing_place where
  distance : Int
  category : Int
  rank : Int
  deriving DecidableEq
def typing_place.c (x : typing_place) : List A := [.int .i64 x.distance, .int .i64 x.category, .int .i64 x.rank]
structure typing_step where
  Step : Step
def typing_step.c (x : typing_step) : List A := [.int .i64 x.Step.Kind, .int .i64 x.Step.By, .int .i64 x.Step.Cond.Kind, .int .i64 x.Step.Cond.Var, .int .i64 x.Step.Cond.N, .rsl 4 (List.map Cond.enc x.Step.Cond.Parts), .rsl 8 (List.map Step.enc x.Step.Then), .rsl 8 (List.map Step.enc x.Step.Else)]
structure typing_cond where
  Cond : Cond
def typing_cond.c (x : typing_cond) : List A := [.int .i64 x.Cond.Kind, .int .i64 x.Cond.Var, .int .i64 x.Cond.N, .rsl 4 (List.map Cond.enc x.Cond.Parts)]
inductive typing_form where
  | ctyping_step (x : typing_step)
  | ctyping_cond (x : typing_cond)
def typing_form.val : typing_form → A
  | .ctyping_step x => .iface 202 (.agg (typing_step.c x))
  | .ctyping_cond x => .iface 223 (.agg (typing_cond.c x))
def typing_form.enc (x : typing_form) : List A := [x.val]
def typing_form.elim {R : Type} (e : typing_form) (f0 : typing_step → Option R) (f1 : typing_cond → Option R) : Option R := match e with
  | .ctyping_step x => f0 x
  | .ctyping_cond x => f1 x
theorem typing_form.data (x : typing_form) : dataA x.val = true := by cases x <;> rfl
theorem typing_form.split (e : typing_form) : (∃ x, e = .ctyping_step x) ∨ (∃ x, e = .ctyping_cond x) := by cases e <;> simp
theorem typing_form.elim_0 {R : Type} {e : typing_form} {x : typing_step} {f0 : typing_step → Option R} {f1 : typing_cond → Option R} {r : R} (hE : e = .ctyping_step x) (h : typing_form.elim e f0 f1 = some r) : f0 x = some r := by subst hE; exact h
theorem typing_form.elim_1 {R : Type} {e : typing_form} {x : typing_cond} {f0 : typing_step → Option R} {f1 : typing_cond → Option R} {r : R} (hE : e = .ctyping_cond x) (h : typing_form.elim e f0 f1 = some r) : f1 x = some r := by subst hE; exact h
structure typing_count where
  steps : Int
  conds : Int
  deriving DecidableEq
def typing_count.c (x : typing_count) : List A := [.int .i64 x.steps, .int .i64 x.conds]
theorem el_24 : ElemTy prog 24 62 5 := ⟨runUnderlying24, sizeOf62, ⟨_, zeroValue62, rfl⟩, ⟨_, typeInfo62, by decide⟩⟩
theorem pl_52 : Places prog 52 [(0, 1), (1, 1), (2, 1)] := ⟨_, runUnderlying52, (PL.cons sizeOf9 (PL.cons sizeOf3 (PL.cons sizeOf3 PL.nil)))⟩
theorem el_27 : ElemTy prog 27 52 3 := ⟨runUnderlying27, sizeOf52, ⟨_, zeroValue52, rfl⟩, ⟨_, typeInfo52, by decide⟩⟩
theorem pl_33 : Places prog 33 [(0, 1), (1, 1), (2, 1), (3, 1), (4, 1), (5, 1), (6, 1), (7, 1), (8, 1), (9, 5), (14, 1), (15, 1)] := ⟨_, runUnderlying33, (PL.cons sizeOf9 (PL.cons sizeOf22 (PL.cons sizeOf23 (PL.cons sizeOf24 (PL.cons sizeOf25 (PL.cons sizeOf26 (PL.cons sizeOf27 (PL.cons sizeOf28 (PL.cons sizeOf29 (PL.cons sizeOf31 (PL.cons sizeOf3 (PL.cons sizeOf3 PL.nil))))))))))))⟩
theorem fa_33_6 : FieldAt prog 33 6 6 1 := ⟨_, _, runUnderlying33, rfl, rfl, sizeOf27, by decide⟩
theorem fa_52_0 : FieldAt prog 52 0 0 1 := ⟨_, _, runUnderlying52, rfl, rfl, sizeOf9, by decide⟩
theorem fs_76 : prog.underlying 76 = some (.struct (prog.fieldsOf 76)) := by kernel_rfl
theorem ns_76 : prog.stoodInHeld 76 = false := by kernel_rfl
theorem key_76 : KeyTy prog 76 (fun x => A.agg (categories_table.c x)) := by
  refine KeyTy.struct fs_76 (fun _ => rfl) (fun x y h => ?_) (fun w em x => ?_) (fun w x y => ?_) (fun x => ?_)
  · cases x; cases y
    simpa [valA, valL, categories_table.c] using h
  · simp only [valA, valL, categories_table.c]
    rw [show (10000 : Nat) = 9998 + 1 + 1 from rfl]
    generalize (9998 : Nat) = d
    simp [Instr.checkKey, runUnderlying76, runUnderlying3, Result.andThen, sizeOf3, isAgg3, part]
  · have u3 := underlying3
    have a3 := isAgg3
    have z3 := sizeOf3
    simp only [valA, valL, categories_table.c, Op.equal, Op.maxDepth]
    rw [show (10000 : Nat) = 9999 + 1 from Z, run_equalIn_agg w 9999 76 _ _ fs_76 ns_76]
    simp only [Program.fieldsOf, underlying76]
    go_simp
    cases x; cases y
    simp
    repeat' split
    all_goals simp_all
  · simp [valA, valL, categories_table.c, Instr.sameBits]
theorem fa_42_1 : FieldAt prog 42 1 1 1 := ⟨_, _, runUnderlying42, rfl, rfl, sizeOf3, by decide⟩
theorem fa_33_3 : FieldAt prog 33 3 3 1 := ⟨_, _, runUnderlying33, rfl, rfl, sizeOf24, by decide⟩
theorem fa_52_1 : FieldAt prog 52 1 1 1 := ⟨_, _, runUnderlying52, rfl, rfl, sizeOf3, by decide⟩
theorem fa_42_4 : FieldAt prog 42 4 4 1 := ⟨_, _, runUnderlying42, rfl, rfl, sizeOf3, by decide⟩
theorem fa_52_2 : FieldAt prog 52 2 2 1 := ⟨_, _, runUnderlying52, rfl, rfl, sizeOf3, by decide⟩
theorem el_39 : ElemTy prog 39 3 1 := ⟨runUnderlying39, sizeOf3, ⟨_, zeroValue3, rfl⟩, ⟨_, typeInfo3, by decide⟩⟩
theorem pl_76 : Places prog 76 [(0, 1), (1, 1)] := ⟨_, runUnderlying76, (PL.cons sizeOf3 (PL.cons sizeOf3 PL.nil))⟩
theorem el_77 : ElemTy prog 77 76 2 := ⟨runUnderlying77, sizeOf76, ⟨_, zeroValue76, rfl⟩, ⟨_, typeInfo76, by decide⟩⟩
theorem fa_76_0 : FieldAt prog 76 0 0 1 := ⟨_, _, runUnderlying76, rfl, rfl, sizeOf3, by decide⟩
theorem fa_76_1 : FieldAt prog 76 1 1 1 := ⟨_, _, runUnderlying76, rfl, rfl, sizeOf3, by decide⟩
theorem pl_42 : Places prog 42 [(0, 1), (1, 1), (2, 1), (3, 1), (4, 1), (5, 1), (6, 1), (7, 1)] := ⟨_, runUnderlying42, (PL.cons sizeOf3 (PL.cons sizeOf3 (PL.cons sizeOf3 (PL.cons sizeOf3 (PL.cons sizeOf3 (PL.cons sizeOf3 (PL.cons sizeOf3 (PL.cons sizeOf3 PL.nil))))))))⟩
theorem el_34 : ElemTy prog 34 42 8 := ⟨runUnderlying34, sizeOf42, ⟨_, zeroValue42, rfl⟩, ⟨_, typeInfo42, by decide⟩⟩
theorem fa_33_1 : FieldAt prog 33 1 1 1 := ⟨_, _, runUnderlying33, rfl, rfl, sizeOf22, by decide⟩
theorem fa_33_2 : FieldAt prog 33 2 2 1 := ⟨_, _, runUnderlying33, rfl, rfl, sizeOf23, by decide⟩
theorem fa_33_4 : FieldAt prog 33 4 4 1 := ⟨_, _, runUnderlying33, rfl, rfl, sizeOf25, by decide⟩
theorem fa_33_5 : FieldAt prog 33 5 5 1 := ⟨_, _, runUnderlying33, rfl, rfl, sizeOf26, by decide⟩
theorem fa_33_7 : FieldAt prog 33 7 7 1 := ⟨_, _, runUnderlying33, rfl, rfl, sizeOf28, by decide⟩
theorem fa_62_1 : FieldAt prog 62 1 1 1 := ⟨_, _, runUnderlying62, rfl, rfl, sizeOf59, by decide⟩
theorem fa_85_2 : FieldAt prog 85 2 2 1 := ⟨_, _, runUnderlying85, rfl, rfl, sizeOf59, by decide⟩
theorem fa_62_3 : FieldAt prog 62 3 3 1 := ⟨_, _, runUnderlying62, rfl, rfl, sizeOf60, by decide⟩
theorem fa_33_0 : FieldAt prog 33 0 0 1 := ⟨_, _, runUnderlying33, rfl, rfl, sizeOf9, by decide⟩
theorem el_232 : ElemTy prog 232 5 1 := ⟨runUnderlying232, sizeOf5, ⟨_, zeroValue5, rfl⟩, ⟨_, typeInfo5, by decide⟩⟩
theorem key_9 : KeyTy prog 9 A.str := KeyTy.str underlying9
theorem fa_107_0 : FieldAt prog 107 0 0 1 := ⟨_, _, runUnderlying107, rfl, rfl, sizeOf9, by decide⟩
theorem fa_62_0 : FieldAt prog 62 0 0 1 := ⟨_, _, runUnderlying62, rfl, rfl, sizeOf9, by decide⟩
theorem fa_109_0 : FieldAt prog 109 0 0 1 := ⟨_, _, runUnderlying109, rfl, rfl, sizeOf9, by decide⟩
theorem fa_111_0 : FieldAt prog 111 0 0 1 := ⟨_, _, runUnderlying111, rfl, rfl, sizeOf9, by decide⟩
theorem fa_33_9 : FieldAt prog 33 9 9 5 := ⟨_, _, runUnderlying33, rfl, rfl, sizeOf31, by decide⟩
theorem fa_107_1 : FieldAt prog 107 1 1 1 := ⟨_, _, runUnderlying107, rfl, rfl, sizeOf3, by decide⟩
theorem fa_90_0 : FieldAt prog 90 0 0 1 := ⟨_, _, runUnderlying90, rfl, rfl, sizeOf3, by decide⟩
theorem fa_90_1 : FieldAt prog 90 1 1 1 := ⟨_, _, runUnderlying90, rfl, rfl, sizeOf3, by decide⟩
theorem fa_90_2 : FieldAt prog 90 2 2 1 := ⟨_, _, runUnderlying90, rfl, rfl, sizeOf3, by decide⟩
theorem fa_90_3 : FieldAt prog 90 3 3 1 := ⟨_, _, runUnderlying90, rfl, rfl, sizeOf3, by decide⟩
theorem fs_92 : prog.underlying 92 = some (.struct (prog.fieldsOf 92)) := by kernel_rfl
theorem ns_92 : prog.stoodInHeld 92 = false := by kernel_rfl
theorem key_92 : KeyTy prog 92 (fun x => A.agg (typing_ends.c x)) := by
  refine KeyTy.struct fs_92 (fun _ => rfl) (fun x y h => ?_) (fun w em x => ?_) (fun w x y => ?_) (fun x => ?_)
  · cases x; cases y
    simpa [valA, valL, typing_ends.c] using h
  · simp only [valA, valL, typing_ends.c]
    rw [show (10000 : Nat) = 9998 + 1 + 1 from rfl]
    generalize (9998 : Nat) = d
    simp [Instr.checkKey, runUnderlying92, runUnderlying3, Result.andThen, sizeOf3, isAgg3, part]
  · have u3 := underlying3
    have a3 := isAgg3
    have z3 := sizeOf3
    simp only [valA, valL, typing_ends.c, Op.equal, Op.maxDepth]
    rw [show (10000 : Nat) = 9999 + 1 from Z, run_equalIn_agg w 9999 92 _ _ fs_92 ns_92]
    simp only [Program.fieldsOf, underlying92]
    go_simp
    cases x; cases y
    simp
    repeat' split
    all_goals simp_all
  · simp [valA, valL, typing_ends.c, Instr.sameBits]
theorem pl_92 : Places prog 92 [(0, 1), (1, 1)] := ⟨_, runUnderlying92, (PL.cons sizeOf3 (PL.cons sizeOf3 PL.nil))⟩
theorem fa_62_2 : FieldAt prog 62 2 2 1 := ⟨_, _, runUnderlying62, rfl, rfl, sizeOf3, by decide⟩
theorem fa_62_4 : FieldAt prog 62 4 4 1 := ⟨_, _, runUnderlying62, rfl, rfl, sizeOf3, by decide⟩
theorem fa_85_1 : FieldAt prog 85 1 1 1 := ⟨_, _, runUnderlying85, rfl, rfl, sizeOf3, by decide⟩
theorem fa_85_0 : FieldAt prog 85 0 0 1 := ⟨_, _, runUnderlying85, rfl, rfl, sizeOf3, by decide⟩
theorem fa_122_0 : FieldAt prog 122 0 0 1 := ⟨_, _, runUnderlying122, rfl, rfl, sizeOf3, by decide⟩
theorem fa_122_1 : FieldAt prog 122 1 1 1 := ⟨_, _, runUnderlying122, rfl, rfl, sizeOf3, by decide⟩
theorem fa_122_2 : FieldAt prog 122 2 2 1 := ⟨_, _, runUnderlying122, rfl, rfl, sizeOf3, by decide⟩
theorem fa_109_1 : FieldAt prog 109 1 1 1 := ⟨_, _, runUnderlying109, rfl, rfl, sizeOf3, by decide⟩
theorem fa_111_3 : FieldAt prog 111 3 3 1 := ⟨_, _, runUnderlying111, rfl, rfl, sizeOf4, by decide⟩
theorem fa_111_1 : FieldAt prog 111 1 1 1 := ⟨_, _, runUnderlying111, rfl, rfl, sizeOf3, by decide⟩
theorem fa_111_2 : FieldAt prog 111 2 2 1 := ⟨_, _, runUnderlying111, rfl, rfl, sizeOf3, by decide⟩
theorem fa_117_0 : FieldAt prog 117 0 0 1 := ⟨_, _, runUnderlying117, rfl, rfl, sizeOf3, by decide⟩
theorem fa_117_1 : FieldAt prog 117 1 1 1 := ⟨_, _, runUnderlying117, rfl, rfl, sizeOf3, by decide⟩
theorem fa_117_2 : FieldAt prog 117 2 2 1 := ⟨_, _, runUnderlying117, rfl, rfl, sizeOf3, by decide⟩
theorem fa_117_3 : FieldAt prog 117 3 3 1 := ⟨_, _, runUnderlying117, rfl, rfl, sizeOf3, by decide⟩
theorem fs_162 : prog.underlying 162 = some (.struct (prog.fieldsOf 162)) := by kernel_rfl
theorem ns_162 : prog.stoodInHeld 162 = false := by kernel_rfl
theorem key_162 : KeyTy prog 162 (fun x => A.agg (typing_place.c x)) := by
  refine KeyTy.struct fs_162 (fun _ => rfl) (fun x y h => ?_) (fun w em x => ?_) (fun w x y => ?_) (fun x => ?_)
  · cases x; cases y
    simpa [valA, valL, typing_place.c] using h
  · simp only [valA, valL, typing_place.c]
    rw [show (10000 : Nat) = 9998 + 1 + 1 from rfl]
    generalize (9998 : Nat) = d
    simp [Instr.checkKey, runUnderlying162, runUnderlying3, Result.andThen, sizeOf3, isAgg3, part]
  · have u3 := underlying3
    have a3 := isAgg3
    have z3 := sizeOf3
    simp only [valA, valL, typing_place.c, Op.equal, Op.maxDepth]
    rw [show (10000 : Nat) = 9999 + 1 from Z, run_equalIn_agg w 9999 162 _ _ fs_162 ns_162]
    simp only [Program.fieldsOf, underlying162]
    go_simp
    cases x; cases y
    simp
    repeat' split
    all_goals simp_all
  · simp [valA, valL, typing_place.c, Instr.sameBits]
theorem pl_162 : Places prog 162 [(0, 1), (1, 1), (2, 1)] := ⟨_, runUnderlying162, (PL.cons sizeOf3 (PL.cons sizeOf3 (PL.cons sizeOf3 PL.nil)))⟩
theorem fa_31_0 : FieldAt prog 31 0 0 1 := ⟨_, _, runUnderlying31, rfl, rfl, sizeOf3, by decide⟩
theorem fa_31_1 : FieldAt prog 31 1 1 1 := ⟨_, _, runUnderlying31, rfl, rfl, sizeOf3, by decide⟩
theorem fa_31_2 : FieldAt prog 31 2 2 1 := ⟨_, _, runUnderlying31, rfl, rfl, sizeOf3, by decide⟩
theorem fa_31_3 : FieldAt prog 31 3 3 1 := ⟨_, _, runUnderlying31, rfl, rfl, sizeOf3, by decide⟩
theorem fa_31_4 : FieldAt prog 31 4 4 1 := ⟨_, _, runUnderlying31, rfl, rfl, sizeOf3, by decide⟩
theorem fa_33_10 : FieldAt prog 33 10 14 1 := ⟨_, _, runUnderlying33, rfl, rfl, sizeOf3, by decide⟩
theorem fa_33_11 : FieldAt prog 33 11 15 1 := ⟨_, _, runUnderlying33, rfl, rfl, sizeOf3, by decide⟩
theorem fa_33_8 : FieldAt prog 33 8 8 1 := ⟨_, _, runUnderlying33, rfl, rfl, sizeOf29, by decide⟩
theorem pl_202 : Places prog 202 [(0, 8)] := ⟨_, runUnderlying202, (PL.cons sizeOf127 PL.nil)⟩
theorem el_165 : ElemTy prog 165 199 1 := ⟨runUnderlying165, sizeOf199, ⟨_, zeroValue199, rfl⟩, ⟨_, typeInfo199, by decide⟩⟩
theorem pl_195 : Places prog 195 [(0, 1), (1, 1)] := ⟨_, runUnderlying195, (PL.cons sizeOf3 (PL.cons sizeOf3 PL.nil))⟩
theorem fa_195_0 : FieldAt prog 195 0 0 1 := ⟨_, _, runUnderlying195, rfl, rfl, sizeOf3, by decide⟩
theorem fa_202_0 : FieldAt prog 202 0 0 8 := ⟨_, _, runUnderlying202, rfl, rfl, sizeOf127, by decide⟩
theorem fa_127_2 : FieldAt prog 127 2 2 4 := ⟨_, _, runUnderlying127, rfl, rfl, sizeOf125, by decide⟩
theorem pl_223 : Places prog 223 [(0, 4)] := ⟨_, runUnderlying223, (PL.cons sizeOf125 PL.nil)⟩
theorem fa_223_0 : FieldAt prog 223 0 0 4 := ⟨_, _, runUnderlying223, rfl, rfl, sizeOf125, by decide⟩
theorem fa_125_0 : FieldAt prog 125 0 0 1 := ⟨_, _, runUnderlying125, rfl, rfl, sizeOf3, by decide⟩
theorem fa_125_1 : FieldAt prog 125 1 1 1 := ⟨_, _, runUnderlying125, rfl, rfl, sizeOf3, by decide⟩
theorem fa_125_2 : FieldAt prog 125 2 2 1 := ⟨_, _, runUnderlying125, rfl, rfl, sizeOf3, by decide⟩
theorem fa_125_3 : FieldAt prog 125 3 3 1 := ⟨_, _, runUnderlying125, rfl, rfl, sizeOf123, by decide⟩
theorem fa_195_1 : FieldAt prog 195 1 1 1 := ⟨_, _, runUnderlying195, rfl, rfl, sizeOf3, by decide⟩
theorem fa_127_3 : FieldAt prog 127 3 6 1 := ⟨_, _, runUnderlying127, rfl, rfl, sizeOf29, by decide⟩
theorem fa_127_4 : FieldAt prog 127 4 7 1 := ⟨_, _, runUnderlying127, rfl, rfl, sizeOf29, by decide⟩
theorem fa_127_0 : FieldAt prog 127 0 0 1 := ⟨_, _, runUnderlying127, rfl, rfl, sizeOf3, by decide⟩
theorem fa_127_1 : FieldAt prog 127 1 1 1 := ⟨_, _, runUnderlying127, rfl, rfl, sizeOf3, by decide⟩
theorem key_3 : KeyTy prog 3 (fun x => A.int .i64 x) := KeyTy.int underlying3
theorem el_96 : ElemTy prog 96 68 1 := ⟨runUnderlying96, sizeOf68, ⟨_, zeroValue68, rfl⟩, ⟨_, typeInfo68, by decide⟩⟩
theorem fa_42_0 : FieldAt prog 42 0 0 1 := ⟨_, _, runUnderlying42, rfl, rfl, sizeOf3, by decide⟩
theorem el_105 : ElemTy prog 105 9 1 := ⟨runUnderlying105, sizeOf9, ⟨_, zeroValue9, rfl⟩, ⟨_, typeInfo9, by decide⟩⟩
def lay_sortK_33_ren : Go.Shelf.Ren := ⟨fun | 6 => 33 | 15 => 59 | 14 => 60 | 28 => 125 | 29 => 126 | 20 => 127 | 21 => 128 | 22 => 129 | 23 => 130 | 24 => 131 | 25 => 132 | 26 => 133 | 27 => 134 | 46 => 166 | 47 => 162 | 48 => 163 | 49 => 167 | 50 => 168 | 57 => 185 | n => n, fun | 22 => 77 | 24 => 76 | 25 => 81 | 3 => 3 | 39 => 55 | 0 => 0 | 53 => 180 | 55 => 182 | 4 => 4 | 46 => 172 | 45 => 171 | 50 => 177 | 5 => 5 | 9 => 9 | 66 => 204 | 70 => 208 | 76 => 226 | 77 => 86 | n => n, fun | n => n⟩
theorem lay_sortK_33 : Go.Proofs.SlLaysF0.n6 prog lay_sortK_33_ren := {
  mixed := by kernel_rfl
  f6 := ⟨f33.name, by decide, func33.trans (congrArg some (by kernel_rfl))⟩
  f14 := ⟨f60.name, by decide, func60.trans (congrArg some (by kernel_rfl))⟩
  f15 := func59.trans (congrArg some (by kernel_rfl))
  f20 := ⟨f127.name, by decide, func127.trans (congrArg some (by kernel_rfl))⟩
  f21 := ⟨f128.name, by decide, func128.trans (congrArg some (by kernel_rfl))⟩
  f22 := ⟨f129.name, by decide, func129.trans (congrArg some (by kernel_rfl))⟩
  f23 := ⟨f130.name, by decide, func130.trans (congrArg some (by kernel_rfl))⟩
  f24 := ⟨f131.name, by decide, func131.trans (congrArg some (by kernel_rfl))⟩
  f25 := ⟨f132.name, by decide, func132.trans (congrArg some (by kernel_rfl))⟩
  f26 := ⟨f133.name, by decide, func133.trans (congrArg some (by kernel_rfl))⟩
  f27 := ⟨f134.name, by decide, func134.trans (congrArg some (by kernel_rfl))⟩
  f28 := func125.trans (congrArg some (by kernel_rfl))
  f29 := func126.trans (congrArg some (by kernel_rfl))
  f46 := ⟨f166.name, by decide, func166.trans (congrArg some (by kernel_rfl))⟩
  f47 := func162.trans (congrArg some (by kernel_rfl))
  f48 := func163.trans (congrArg some (by kernel_rfl))
  f49 := ⟨f167.name, by decide, func167.trans (congrArg some (by kernel_rfl))⟩
  f50 := ⟨f168.name, by decide, func168.trans (congrArg some (by kernel_rfl))⟩
  f57 := ⟨f185.name, by decide, func185.trans (congrArg some (by kernel_rfl))⟩
  t0 := underlying0
  a0 := isAgg0
  z0 := sizeOf0
  v0 := zeroValue0
  t3 := underlying3
  a3 := isAgg3
  z3 := sizeOf3
  v3 := zeroValue3
  t4 := underlying4
  a4 := isAgg4
  z4 := sizeOf4
  v4 := zeroValue4
  t5 := underlying5
  a5 := isAgg5
  z5 := sizeOf5
  v5 := zeroValue5
  t9 := underlying9
  a9 := isAgg9
  z9 := sizeOf9
  v9 := zeroValue9
  t22 := underlying77
  a22 := isAgg77
  z22 := sizeOf77
  v22 := zeroValue77
  t25 := underlying81
  a25 := isAgg81
  z25 := sizeOf81
  v25 := zeroValue81
  t39 := underlying55
  a39 := isAgg55
  z39 := sizeOf55
  v39 := zeroValue55
  t45 := underlying171
  a45 := isAgg171
  z45 := sizeOf171
  v45 := zeroValue171
  t46 := underlying172
  a46 := isAgg172
  z46 := sizeOf172
  v46 := zeroValue172
  t50 := underlying177
  a50 := isAgg177
  z50 := sizeOf177
  v50 := zeroValue177
  t53 := underlying180
  a53 := isAgg180
  z53 := sizeOf180
  v53 := zeroValue180
  t55 := underlying182
  a55 := isAgg182
  z55 := sizeOf182
  v55 := zeroValue182
  t66 := underlying204
  a66 := isAgg204
  z66 := sizeOf204
  v66 := zeroValue204
  t70 := underlying208
  a70 := isAgg208
  z70 := sizeOf208
  v70 := zeroValue208
  t76 := underlying226
  a76 := isAgg226
  z76 := sizeOf226
  v76 := zeroValue226
  t77 := underlying86
  a77 := isAgg86
  z77 := sizeOf86
  v77 := zeroValue86 }
def lay_contains_171_ren : Go.Shelf.Ren := ⟨fun | 144 => 171 | 143 => 187 | 219 => 190 | 217 => 192 | 225 => 193 | 224 => 194 | 267 => 195 | 266 => 196 | 314 => 197 | n => n, fun | 9 => 9 | 4 => 4 | 3 => 3 | 5 => 5 | 46 => 55 | 146 => 236 | 51 => 180 | n => n, fun | 1 => 0 | n => n⟩
theorem lay_contains_171 : Go.Proofs.Lays.n144 prog lay_contains_171_ren := {
  mixed := by kernel_rfl
  f143 := func187.trans (congrArg some (by kernel_rfl))
  f144 := func171.trans (congrArg some (by kernel_rfl))
  f217 := func192.trans (congrArg some (by kernel_rfl))
  f219 := func190.trans (congrArg some (by kernel_rfl))
  f224 := func194.trans (congrArg some (by kernel_rfl))
  f225 := func193.trans (congrArg some (by kernel_rfl))
  f266 := func196.trans (congrArg some (by kernel_rfl))
  f267 := func195.trans (congrArg some (by kernel_rfl))
  f314 := func197.trans (congrArg some (by kernel_rfl))
  t3 := underlying3
  a3 := isAgg3
  z3 := sizeOf3
  v3 := zeroValue3
  t4 := underlying4
  a4 := isAgg4
  z4 := sizeOf4
  v4 := zeroValue4
  t5 := underlying5
  a5 := isAgg5
  z5 := sizeOf5
  v5 := zeroValue5
  t9 := underlying9
  a9 := isAgg9
  z9 := sizeOf9
  v9 := zeroValue9
  t46 := underlying55
  a46 := isAgg55
  z46 := sizeOf55
  v46 := zeroValue55
  t51 := underlying180
  a51 := isAgg180
  z51 := sizeOf180
  v51 := zeroValue180
  t146 := underlying236
  a146 := isAgg236
  z146 := sizeOf236
  v146 := zeroValue236
  g1 := by kernel_rfl }
def lay_sortI_30_ren : Go.Shelf.Ren := ⟨fun | 189 => 30 | 125 => 59 | 257 => 58 | 128 => 125 | 129 => 126 | 294 => 116 | 295 => 117 | 296 => 118 | 297 => 119 | 298 => 120 | 299 => 121 | 216 => 122 | 300 => 123 | 301 => 124 | 328 => 161 | 329 => 162 | 330 => 163 | 331 => 164 | 332 => 165 | 215 => 61 | 343 => 184 | n => n, fun | 28 => 39 | 3 => 3 | 46 => 55 | 0 => 0 | 51 => 180 | 53 => 182 | 4 => 4 | 183 => 172 | 182 => 171 | 131 => 177 | 5 => 5 | 9 => 9 | 218 => 204 | 222 => 208 | 228 => 226 | 229 => 86 | n => n, fun | n => n⟩
theorem lay_sortI_30 : Go.Proofs.Lays.n189 prog lay_sortI_30_ren := {
  mixed := by kernel_rfl
  f125 := func59.trans (congrArg some (by kernel_rfl))
  f128 := func125.trans (congrArg some (by kernel_rfl))
  f129 := func126.trans (congrArg some (by kernel_rfl))
  f189 := func30.trans (congrArg some (by kernel_rfl))
  f215 := func61.trans (congrArg some (by kernel_rfl))
  f216 := func122.trans (congrArg some (by kernel_rfl))
  f257 := func58.trans (congrArg some (by kernel_rfl))
  f294 := func116.trans (congrArg some (by kernel_rfl))
  f295 := func117.trans (congrArg some (by kernel_rfl))
  f296 := func118.trans (congrArg some (by kernel_rfl))
  f297 := func119.trans (congrArg some (by kernel_rfl))
  f298 := func120.trans (congrArg some (by kernel_rfl))
  f299 := func121.trans (congrArg some (by kernel_rfl))
  f300 := func123.trans (congrArg some (by kernel_rfl))
  f301 := func124.trans (congrArg some (by kernel_rfl))
  f328 := func161.trans (congrArg some (by kernel_rfl))
  f329 := func162.trans (congrArg some (by kernel_rfl))
  f330 := func163.trans (congrArg some (by kernel_rfl))
  f331 := func164.trans (congrArg some (by kernel_rfl))
  f332 := func165.trans (congrArg some (by kernel_rfl))
  f343 := func184.trans (congrArg some (by kernel_rfl))
  t0 := underlying0
  a0 := isAgg0
  z0 := sizeOf0
  v0 := zeroValue0
  t3 := underlying3
  a3 := isAgg3
  z3 := sizeOf3
  v3 := zeroValue3
  t4 := underlying4
  a4 := isAgg4
  z4 := sizeOf4
  v4 := zeroValue4
  t5 := underlying5
  a5 := isAgg5
  z5 := sizeOf5
  v5 := zeroValue5
  t9 := underlying9
  a9 := isAgg9
  z9 := sizeOf9
  v9 := zeroValue9
  t28 := underlying39
  a28 := isAgg39
  z28 := sizeOf39
  v28 := zeroValue39
  t46 := underlying55
  a46 := isAgg55
  z46 := sizeOf55
  v46 := zeroValue55
  t51 := underlying180
  a51 := isAgg180
  z51 := sizeOf180
  v51 := zeroValue180
  t53 := underlying182
  a53 := isAgg182
  z53 := sizeOf182
  v53 := zeroValue182
  t131 := underlying177
  a131 := isAgg177
  z131 := sizeOf177
  v131 := zeroValue177
  t182 := underlying171
  a182 := isAgg171
  z182 := sizeOf171
  v182 := zeroValue171
  t183 := underlying172
  a183 := isAgg172
  z183 := sizeOf172
  v183 := zeroValue172
  t218 := underlying204
  a218 := isAgg204
  z218 := sizeOf204
  v218 := zeroValue204
  t222 := underlying208
  a222 := isAgg208
  z222 := sizeOf208
  v222 := zeroValue208
  t228 := underlying226
  a228 := isAgg226
  z228 := sizeOf226
  v228 := zeroValue226
  t229 := underlying86
  a229 := isAgg86
  z229 := sizeOf86
  v229 := zeroValue86 }
def lay_compact_31_ren : Go.Shelf.Ren := ⟨fun | 20 => 31 | n => n, fun | 22 => 39 | 3 => 3 | 4 => 4 | 0 => 0 | n => n, fun | n => n⟩
theorem lay_compact_31 : Go.Proofs.Lays2.n20 prog lay_compact_31_ren := {
  mixed := by kernel_rfl
  f20 := func31.trans (congrArg some (by kernel_rfl))
  t0 := underlying0
  a0 := isAgg0
  z0 := sizeOf0
  v0 := zeroValue0
  t3 := underlying3
  a3 := isAgg3
  z3 := sizeOf3
  v3 := zeroValue3
  t4 := underlying4
  a4 := isAgg4
  z4 := sizeOf4
  v4 := zeroValue4
  t22 := underlying39
  a22 := isAgg39
  z22 := sizeOf39
  v22 := zeroValue39
  i3 := by kernel_rfl }
end Go.Sw
