/- The types of ChipsWorlds and facts on them. -/
import Derived.Test.YtkjlhfabbbomjaaGreatDoorL3
import Derived.Test.YtkjlhfabbbomjaaGreatDoorProg
set_option linter.unusedVariables false
set_option linter.unusedSimpArgs false
set_option maxRecDepth 100000
set_option maxHeartbeats 4000000
namespace Go.Sw
open Go.Proofs Tryz
theorem draws : prog.follows .mixedOrders = true := by rfl
structure Faults where
  Misses : Int
  Strays : Int
  Window : Int
  Residual : Int
  Drift : Int
  deriving DecidableEq
def Faults.c (x : Faults) : List Go.Sw.A := [.int .i64 x.Misses, .int .i64 x.Strays, .int .i64 x.Window, .int .i64 x.Residual, .int .i64 x.Drift]
structure Mat where
  Name : List UInt8
  Kind : Int
  deriving DecidableEq
def Mat.c (x : Mat) : List Go.Sw.A := [.str x.Name, .int .i64 x.Kind]
structure Leg where
  From : Int
  To : Int
  Min : Int
  Max : Int
  deriving DecidableEq
def Leg.c (x : Leg) : List Go.Sw.A := [.int .i64 x.From, .int .i64 x.To, .int .i64 x.Min, .int .i64 x.Max]
structure Part where
  Mat : Int
  Laps : Int
  Parts : List Part
mutual
def Part.enc : Part → List A
  | ⟨x0, x1, x2⟩ => [.int .i64 x0, .int .i64 x1, .rsl 3 (Part.encs x2)]
def Part.encs : List Part → List (List A)
  | [] => []
  | x :: l => Part.enc x :: Part.encs l
end
theorem QbX (l : List Part) : Part.encs l = List.map Part.enc l := by induction l with | nil => simp [Part.encs] | cons x l h => simp [Part.encs, h]
def Part.c (x : Part) : List Go.Sw.A := [.int .i64 x.Mat, .int .i64 x.Laps, .rsl 3 (List.map Part.enc x.Parts)]
theorem YH (x : Part) : Part.enc x = Part.c x := by cases x; simp [Part.enc, Part.c, QbX]
structure Cutoff where
  Mat : Int
  Lap : Int
  Limit : Int
  deriving DecidableEq
def Cutoff.c (x : Cutoff) : List Go.Sw.A := [.int .i64 x.Mat, .int .i64 x.Lap, .int .i64 x.Limit]
structure Distance where
  Name : List UInt8
  Route : List Part
  Timing : Int
  Cutoffs : List Cutoff
  Extra : Int
def Distance.c (x : Distance) : List Go.Sw.A := [.str x.Name, .rsl 3 (List.map Part.enc x.Route), .int .i64 x.Timing, .rsl 3 (List.map Cutoff.c x.Cutoffs), .int .i64 x.Extra]
structure Wave where
  Name : List UInt8
  Gun : Int
  deriving DecidableEq
def Wave.c (x : Wave) : List Go.Sw.A := [.str x.Name, .int .i64 x.Gun]
structure Offence where
  Name : List UInt8
  Time : Int
  Laps : Int
  Out : Bool
  deriving DecidableEq
def Offence.c (x : Offence) : List Go.Sw.A := [.str x.Name, .int .i64 x.Time, .int .i64 x.Laps, .bool x.Out]
structure Category where
  Name : List UInt8
  From : Int
  To : Int
  deriving DecidableEq
def Category.c (x : Category) : List Go.Sw.A := [.str x.Name, .int .i64 x.From, .int .i64 x.To]
structure Prize where
  Distance : Int
  Category : Int
  Rank : Int
  Amount : Int
  deriving DecidableEq
def Prize.c (x : Prize) : List Go.Sw.A := [.int .i64 x.Distance, .int .i64 x.Category, .int .i64 x.Rank, .int .i64 x.Amount]
structure Cond where
  Kind : Int
  Var : Int
  N : Int
  Parts : List Cond
mutual
def Cond.enc : Cond → List A
  | ⟨x0, x1, x2, x3⟩ => [.int .i64 x0, .int .i64 x1, .int .i64 x2, .rsl 4 (Cond.encs x3)]
def Cond.encs : List Cond → List (List A)
  | [] => []
  | x :: l => Cond.enc x :: Cond.encs l
end
theorem Qb0 (l : List Cond) : Cond.encs l = List.map Cond.enc l := by induction l with | nil => simp [Cond.encs] | cons x l h => simp [Cond.encs, h]
def Cond.c (x : Cond) : List Go.Sw.A := [.int .i64 x.Kind, .int .i64 x.Var, .int .i64 x.N, .rsl 4 (List.map Cond.enc x.Parts)]
theorem Qan (x : Cond) : Cond.enc x = Cond.c x := by cases x; simp [Cond.enc, Cond.c, Qb0]
structure Step where
  Kind : Int
  By : Int
  Cond : Cond
  Then : List Step
  Else : List Step
mutual
def Step.enc : Step → List A
  | ⟨x0, x1, x2, x3, x4⟩ => [.int .i64 x0, .int .i64 x1, .int .i64 x2.Kind, .int .i64 x2.Var, .int .i64 x2.N, .rsl 4 (List.map Cond.enc x2.Parts), .rsl 8 (Step.encs x3), .rsl 8 (Step.encs x4)]
def Step.encs : List Step → List (List A)
  | [] => []
  | x :: l => Step.enc x :: Step.encs l
end
theorem QbV (l : List Step) : Step.encs l = List.map Step.enc l := by induction l with | nil => simp [Step.encs] | cons x l h => simp [Step.encs, h]
def Step.c (x : Step) : List Go.Sw.A := [.int .i64 x.Kind, .int .i64 x.By, .int .i64 x.Cond.Kind, .int .i64 x.Cond.Var, .int .i64 x.Cond.N, .rsl 4 (List.map Cond.enc x.Cond.Parts), .rsl 8 (List.map Step.enc x.Then), .rsl 8 (List.map Step.enc x.Else)]
theorem Yn (x : Step) : Step.enc x = Step.c x := by cases x; simp [Step.enc, Step.c, QbV]
structure Course where
  Name : List UInt8
  Mats : List Mat
  Legs : List Leg
  Distances : List Distance
  Waves : List Wave
  Offences : List Offence
  Categories : List Category
  Prizes : List Prize
  Ties : List Step
  Faults : Faults
  Fee : Int
  Deadline : Int
def Course.c (x : Course) : List Go.Sw.A := [.str x.Name, .rsl 2 (List.map Mat.c x.Mats), .rsl 4 (List.map Leg.c x.Legs), .rsl 5 (List.map Distance.c x.Distances), .rsl 2 (List.map Wave.c x.Waves), .rsl 4 (List.map Offence.c x.Offences), .rsl 3 (List.map Category.c x.Categories), .rsl 4 (List.map Prize.c x.Prizes), .rsl 8 (List.map Step.enc x.Ties), .int .i64 x.Faults.Misses, .int .i64 x.Faults.Strays, .int .i64 x.Faults.Window, .int .i64 x.Faults.Residual, .int .i64 x.Faults.Drift, .int .i64 x.Fee, .int .i64 x.Deadline]
structure Starter where
  Bib : Int
  Distance : Int
  Wave : Int
  Slot : Int
  Age : Int
  Chip : Int
  Team : Int
  Lot : Int
  deriving DecidableEq
def Starter.c (x : Starter) : List Go.Sw.A := [.int .i64 x.Bib, .int .i64 x.Distance, .int .i64 x.Wave, .int .i64 x.Slot, .int .i64 x.Age, .int .i64 x.Chip, .int .i64 x.Team, .int .i64 x.Lot]
structure Read where
  Mat : Int
  Epoch : Int
  Chip : Int
  Local : Int
  deriving DecidableEq
def Read.c (x : Read) : List Go.Sw.A := [.int .i64 x.Mat, .int .i64 x.Epoch, .int .i64 x.Chip, .int .i64 x.Local]
structure Beacon where
  Mat : Int
  Epoch : Int
  Local : Int
  True : Int
  Err : Int
  deriving DecidableEq
def Beacon.c (x : Beacon) : List Go.Sw.A := [.int .i64 x.Mat, .int .i64 x.Epoch, .int .i64 x.Local, .int .i64 x.True, .int .i64 x.Err]
structure Sync where
  MatA : Int
  EpochA : Int
  LocalA : Int
  MatB : Int
  EpochB : Int
  LocalB : Int
  Min : Int
  Max : Int
  deriving DecidableEq
def Sync.c (x : Sync) : List Go.Sw.A := [.int .i64 x.MatA, .int .i64 x.EpochA, .int .i64 x.LocalA, .int .i64 x.MatB, .int .i64 x.EpochB, .int .i64 x.LocalB, .int .i64 x.Min, .int .i64 x.Max]
structure Hand where
  Bib : Int
  Position : Int
  Lo : Int
  Hi : Int
  deriving DecidableEq
def Hand.c (x : Hand) : List Go.Sw.A := [.int .i64 x.Bib, .int .i64 x.Position, .int .i64 x.Lo, .int .i64 x.Hi]
structure Silence where
  Mat : Int
  Epoch : Int
  Lo : Int
  Hi : Int
  deriving DecidableEq
def Silence.c (x : Silence) : List Go.Sw.A := [.int .i64 x.Mat, .int .i64 x.Epoch, .int .i64 x.Lo, .int .i64 x.Hi]
structure Pair where
  A : Int
  B : Int
  deriving DecidableEq
def Pair.c (x : Pair) : List Go.Sw.A := [.int .i64 x.A, .int .i64 x.B]
structure Report where
  Case : Int
  Bib : Int
  Offence : Int
  Position : Int
  deriving DecidableEq
def Report.c (x : Report) : List Go.Sw.A := [.int .i64 x.Case, .int .i64 x.Bib, .int .i64 x.Offence, .int .i64 x.Position]
structure Protest where
  Case : Int
  By : Int
  Fee : Int
  Form : Int
  deriving DecidableEq
def Protest.c (x : Protest) : List Go.Sw.A := [.int .i64 x.Case, .int .i64 x.By, .int .i64 x.Fee, .int .i64 x.Form]
structure Ruling where
  Case : Int
  Instance : Int
  Kind : Int
  Bib : Int
  Position : Int
  Amount : Int
  deriving DecidableEq
def Ruling.c (x : Ruling) : List Go.Sw.A := [.int .i64 x.Case, .int .i64 x.Instance, .int .i64 x.Kind, .int .i64 x.Bib, .int .i64 x.Position, .int .i64 x.Amount]
structure Appeal where
  Case : Int
  Suspends : Bool
  deriving DecidableEq
def Appeal.c (x : Appeal) : List Go.Sw.A := [.int .i64 x.Case, .bool x.Suspends]
structure Ref where
  Crew : Int
  No : Int
  deriving DecidableEq
def Ref.c (x : Ref) : List Go.Sw.A := [.int .i64 x.Crew, .int .i64 x.No]
structure Fact where
  Crew : Int
  No : Int
  At : Int
  Kind : Int
  Starter : Starter
  Read : Read
  Beacon : Beacon
  Sync : Sync
  Hand : Hand
  Silence : Silence
  Pair : Pair
  Report : Report
  Protest : Protest
  Ruling : Ruling
  Appeal : Appeal
  Void : Ref
  deriving DecidableEq
def Fact.c (x : Fact) : List Go.Sw.A := [.int .i64 x.Crew, .int .i64 x.No, .int .i64 x.At, .int .i64 x.Kind, .int .i64 x.Starter.Bib, .int .i64 x.Starter.Distance, .int .i64 x.Starter.Wave, .int .i64 x.Starter.Slot, .int .i64 x.Starter.Age, .int .i64 x.Starter.Chip, .int .i64 x.Starter.Team, .int .i64 x.Starter.Lot, .int .i64 x.Read.Mat, .int .i64 x.Read.Epoch, .int .i64 x.Read.Chip, .int .i64 x.Read.Local, .int .i64 x.Beacon.Mat, .int .i64 x.Beacon.Epoch, .int .i64 x.Beacon.Local, .int .i64 x.Beacon.True, .int .i64 x.Beacon.Err, .int .i64 x.Sync.MatA, .int .i64 x.Sync.EpochA, .int .i64 x.Sync.LocalA, .int .i64 x.Sync.MatB, .int .i64 x.Sync.EpochB, .int .i64 x.Sync.LocalB, .int .i64 x.Sync.Min, .int .i64 x.Sync.Max, .int .i64 x.Hand.Bib, .int .i64 x.Hand.Position, .int .i64 x.Hand.Lo, .int .i64 x.Hand.Hi, .int .i64 x.Silence.Mat, .int .i64 x.Silence.Epoch, .int .i64 x.Silence.Lo, .int .i64 x.Silence.Hi, .int .i64 x.Pair.A, .int .i64 x.Pair.B, .int .i64 x.Report.Case, .int .i64 x.Report.Bib, .int .i64 x.Report.Offence, .int .i64 x.Report.Position, .int .i64 x.Protest.Case, .int .i64 x.Protest.By, .int .i64 x.Protest.Fee, .int .i64 x.Protest.Form, .int .i64 x.Ruling.Case, .int .i64 x.Ruling.Instance, .int .i64 x.Ruling.Kind, .int .i64 x.Ruling.Bib, .int .i64 x.Ruling.Position, .int .i64 x.Ruling.Amount, .int .i64 x.Appeal.Case, .bool x.Appeal.Suspends, .int .i64 x.Void.Crew, .int .i64 x.Void.No]
abbrev z_Starter : Starter := { Bib := 0, Distance := 0, Wave := 0, Slot := 0, Age := 0, Chip := 0, Team := 0, Lot := 0 }
abbrev z_Read : Read := { Mat := 0, Epoch := 0, Chip := 0, Local := 0 }
abbrev z_Beacon : Beacon := { Mat := 0, Epoch := 0, Local := 0, True := 0, Err := 0 }
abbrev z_Sync : Sync := { MatA := 0, EpochA := 0, LocalA := 0, MatB := 0, EpochB := 0, LocalB := 0, Min := 0, Max := 0 }
abbrev z_Hand : Hand := { Bib := 0, Position := 0, Lo := 0, Hi := 0 }
abbrev z_Silence : Silence := { Mat := 0, Epoch := 0, Lo := 0, Hi := 0 }
abbrev z_Report : Report := { Case := 0, Bib := 0, Offence := 0, Position := 0 }
abbrev z_Protest : Protest := { Case := 0, By := 0, Fee := 0, Form := 0 }
abbrev z_Ruling : Ruling := { Case := 0, Instance := 0, Kind := 0, Bib := 0, Position := 0, Amount := 0 }
abbrev z_Fact : Fact := { Crew := 0, No := 0, At := 0, Kind := 0, Starter := z_Starter, Read := z_Read, Beacon := z_Beacon, Sync := z_Sync, Hand := z_Hand, Silence := z_Silence, Pair := { A := 0, B := 0 : Pair }, Report := z_Report, Protest := z_Protest, Ruling := z_Ruling, Appeal := { Case := 0, Suspends := false : Appeal }, Void := { Crew := 0, No := 0 : Ref } }
abbrev z_Part : Part := { Mat := 0, Laps := 0, Parts := [] }
abbrev z_Cond : Cond := { Kind := 0, Var := 0, N := 0, Parts := [] }
abbrev z_Step : Step := { Kind := 0, By := 0, Cond := z_Cond, Then := [], Else := [] }
structure typing_ends where
  from_ : Int
  to_ : Int
  deriving DecidableEq
def typing_ends.c (x : typing_ends) : List Go.Sw.A := [.int .i64 x.from_, .int .i64 x.to_]
structure typing_place where
  distance : Int
  category : Int
  rank : Int
  deriving DecidableEq
def typing_place.c (x : typing_place) : List Go.Sw.A := [.int .i64 x.distance, .int .i64 x.category, .int .i64 x.rank]
structure typing_step where
  Step : Step
def typing_step.c (x : typing_step) : List Go.Sw.A := [.int .i64 x.Step.Kind, .int .i64 x.Step.By, .int .i64 x.Step.Cond.Kind, .int .i64 x.Step.Cond.Var, .int .i64 x.Step.Cond.N, .rsl 4 (List.map Cond.enc x.Step.Cond.Parts), .rsl 8 (List.map Step.enc x.Step.Then), .rsl 8 (List.map Step.enc x.Step.Else)]
structure typing_cond where
  Cond : Cond
def typing_cond.c (x : typing_cond) : List Go.Sw.A := [.int .i64 x.Cond.Kind, .int .i64 x.Cond.Var, .int .i64 x.Cond.N, .rsl 4 (List.map Cond.enc x.Cond.Parts)]
inductive typing_form where
  | ctyping_step (x : typing_step)
  | ctyping_cond (x : typing_cond)
def typing_form.val : typing_form → A
  | .ctyping_step x => .iface 263 (.agg (typing_step.c x))
  | .ctyping_cond x => .iface 298 (.agg (typing_cond.c x))
def typing_form.enc (x : typing_form) : List A := [x.val]
def typing_form.elim {R : Type} (e : typing_form) (f0 : typing_step → Option R) (f1 : typing_cond → Option R) : Option R := match e with
  | .ctyping_step x => f0 x
  | .ctyping_cond x => f1 x
theorem typing_form.data (x : typing_form) : dataA x.val = true := by cases x <;> rfl
theorem YL (e : typing_form) : (∃ x, e = .ctyping_step x) ∨ (∃ x, e = .ctyping_cond x) := by cases e <;> simp
theorem Yy {R : Type} {e : typing_form} {x : typing_step} {f0 : typing_step → Option R} {f1 : typing_cond → Option R} {r : R} (hE : e = .ctyping_step x) (h : typing_form.elim e f0 f1 = some r) : f0 x = some r := by subst hE; exact h
theorem Yx {R : Type} {e : typing_form} {x : typing_cond} {f0 : typing_step → Option R} {f1 : typing_cond → Option R} {r : R} (hE : e = .ctyping_cond x) (h : typing_form.elim e f0 f1 = some r) : f1 x = some r := by subst hE; exact h
structure typing_count where
  steps : Int
  conds : Int
  deriving DecidableEq
def typing_count.c (x : typing_count) : List Go.Sw.A := [.int .i64 x.steps, .int .i64 x.conds]
structure facts_scope where
  least : Int
  most : Int
  deriving DecidableEq
def facts_scope.c (x : facts_scope) : List Go.Sw.A := [.int .i64 x.least, .int .i64 x.most]
structure Value where
  Kind : Int
  N : Int
  S : List UInt8
  L : List Value
mutual
def Value.enc : Value → List A
  | ⟨x0, x1, x2, x3⟩ => [.int .i64 x0, .int .i64 x1, .str x2, .rsl 4 (Value.encs x3)]
def Value.encs : List Value → List (List A)
  | [] => []
  | x :: l => Value.enc x :: Value.encs l
end
theorem Qdp (l : List Value) : Value.encs l = List.map Value.enc l := by induction l with | nil => simp [Value.encs] | cons x l h => simp [Value.encs, h]
def Value.c (x : Value) : List Go.Sw.A := [.int .i64 x.Kind, .int .i64 x.N, .str x.S, .rsl 4 (List.map Value.enc x.L)]
theorem Qa1 (x : Value) : Value.enc x = Value.c x := by cases x; simp [Value.enc, Value.c, Qdp]
abbrev z_Faults : Faults := { Misses := 0, Strays := 0, Window := 0, Residual := 0, Drift := 0 }
theorem pl_50 : Places prog 50 [(0, 1), (1, 1), (2, 1), (3, 1), (4, 1), (5, 1), (6, 1), (7, 1)] := ⟨_, runUnderlying50, (PL.cons sizeOf3 (PL.cons sizeOf3 (PL.cons sizeOf3 (PL.cons sizeOf3 (PL.cons sizeOf3 (PL.cons sizeOf3 (PL.cons sizeOf3 (PL.cons sizeOf3 PL.nil))))))))⟩
theorem pl_81 : Places prog 81 [(0, 1), (1, 1), (2, 1), (3, 1), (4, 8), (12, 4), (16, 5), (21, 8), (29, 4), (33, 4), (37, 2), (39, 4), (43, 4), (47, 6), (53, 2), (55, 2)] := ⟨_, runUnderlying81, (PL.cons sizeOf3 (PL.cons sizeOf3 (PL.cons sizeOf3 (PL.cons sizeOf3 (PL.cons sizeOf50 (PL.cons sizeOf61 (PL.cons sizeOf63 (PL.cons sizeOf65 (PL.cons sizeOf67 (PL.cons sizeOf69 (PL.cons sizeOf59 (PL.cons sizeOf71 (PL.cons sizeOf73 (PL.cons sizeOf75 (PL.cons sizeOf77 (PL.cons sizeOf79 PL.nil))))))))))))))))⟩
theorem Qj5 : Places prog 59 [(0, 1), (1, 1)] := ⟨_, runUnderlying59, (PL.cons sizeOf3 (PL.cons sizeOf3 PL.nil))⟩
theorem Qil : ElemTy prog 34 81 57 := ⟨runUnderlying34, sizeOf81, ⟨_, zeroValue81, rfl⟩, ⟨_, typeInfo81, by decide⟩⟩
theorem Qj4 : Places prog 96 [(0, 1), (1, 1)] := ⟨_, runUnderlying96, (PL.cons sizeOf9 (PL.cons sizeOf3 PL.nil))⟩
theorem el_22 : ElemTy prog 22 96 2 := ⟨runUnderlying22, sizeOf96, ⟨_, zeroValue96, rfl⟩, ⟨_, typeInfo96, by decide⟩⟩
theorem QkD : Places prog 123 [(0, 1), (1, 1), (2, 1), (3, 1)] := ⟨_, runUnderlying123, (PL.cons sizeOf3 (PL.cons sizeOf3 (PL.cons sizeOf3 (PL.cons sizeOf3 PL.nil))))⟩
theorem el_23 : ElemTy prog 23 123 4 := ⟨runUnderlying23, sizeOf123, ⟨_, zeroValue123, rfl⟩, ⟨_, typeInfo123, by decide⟩⟩
theorem QkC : Places prog 125 [(0, 1), (1, 1), (2, 1)] := ⟨_, runUnderlying125, (PL.cons sizeOf3 (PL.cons sizeOf3 (PL.cons sizeOf91 PL.nil)))⟩
theorem el_91 : ElemTy prog 91 125 3 := ⟨runUnderlying91, sizeOf125, ⟨_, zeroValue125, rfl⟩, ⟨_, typeInfo125, by decide⟩⟩
theorem pl_94 : Places prog 94 [(0, 1), (1, 1), (2, 1), (3, 1), (4, 1)] := ⟨_, runUnderlying94, (PL.cons sizeOf9 (PL.cons sizeOf91 (PL.cons sizeOf3 (PL.cons sizeOf92 (PL.cons sizeOf3 PL.nil)))))⟩
theorem el_24 : ElemTy prog 24 94 5 := ⟨runUnderlying24, sizeOf94, ⟨_, zeroValue94, rfl⟩, ⟨_, typeInfo94, by decide⟩⟩
theorem QkB : Places prog 127 [(0, 1), (1, 1)] := ⟨_, runUnderlying127, (PL.cons sizeOf9 (PL.cons sizeOf3 PL.nil))⟩
theorem el_25 : ElemTy prog 25 127 2 := ⟨runUnderlying25, sizeOf127, ⟨_, zeroValue127, rfl⟩, ⟨_, typeInfo127, by decide⟩⟩
theorem QkA : Places prog 132 [(0, 1), (1, 1), (2, 4), (6, 1), (7, 1)] := ⟨_, runUnderlying132, (PL.cons sizeOf3 (PL.cons sizeOf3 (PL.cons sizeOf130 (PL.cons sizeOf29 (PL.cons sizeOf29 PL.nil)))))⟩
theorem el_29 : ElemTy prog 29 132 8 := ⟨runUnderlying29, sizeOf132, ⟨_, zeroValue132, rfl⟩, ⟨_, typeInfo132, by decide⟩⟩
theorem pl_33 : Places prog 33 [(0, 1), (1, 1), (2, 1), (3, 1), (4, 1), (5, 1), (6, 1), (7, 1), (8, 1), (9, 5), (14, 1), (15, 1)] := ⟨_, runUnderlying33, (PL.cons sizeOf9 (PL.cons sizeOf22 (PL.cons sizeOf23 (PL.cons sizeOf24 (PL.cons sizeOf25 (PL.cons sizeOf26 (PL.cons sizeOf27 (PL.cons sizeOf28 (PL.cons sizeOf29 (PL.cons sizeOf31 (PL.cons sizeOf3 (PL.cons sizeOf3 PL.nil))))))))))))⟩
theorem Qd9 : FieldAt prog 33 1 1 1 := ⟨_, _, runUnderlying33, rfl, rfl, sizeOf22, by decide⟩
theorem QbM : FieldAt prog 33 2 2 1 := ⟨_, _, runUnderlying33, rfl, rfl, sizeOf23, by decide⟩
theorem QaE : FieldAt prog 33 3 3 1 := ⟨_, _, runUnderlying33, rfl, rfl, sizeOf24, by decide⟩
theorem QbL : FieldAt prog 33 4 4 1 := ⟨_, _, runUnderlying33, rfl, rfl, sizeOf25, by decide⟩
theorem QcH : FieldAt prog 33 5 5 1 := ⟨_, _, runUnderlying33, rfl, rfl, sizeOf26, by decide⟩
theorem QbK : FieldAt prog 33 6 6 1 := ⟨_, _, runUnderlying33, rfl, rfl, sizeOf27, by decide⟩
theorem QcG : FieldAt prog 33 7 7 1 := ⟨_, _, runUnderlying33, rfl, rfl, sizeOf28, by decide⟩
theorem Qf7 : FieldAt prog 94 1 1 1 := ⟨_, _, runUnderlying94, rfl, rfl, sizeOf91, by decide⟩
theorem QbO : FieldAt prog 125 2 2 1 := ⟨_, _, runUnderlying125, rfl, rfl, sizeOf91, by decide⟩
theorem Qd6 : FieldAt prog 94 3 3 1 := ⟨_, _, runUnderlying94, rfl, rfl, sizeOf92, by decide⟩
theorem Qgb : FieldAt prog 33 0 0 1 := ⟨_, _, runUnderlying33, rfl, rfl, sizeOf9, by decide⟩
theorem Yj : ElemTy prog 118 5 1 := ⟨runUnderlying118, sizeOf5, ⟨_, zeroValue5, rfl⟩, ⟨_, typeInfo5, by decide⟩⟩
theorem Qbt : KeyTy prog 9 A.str := KeyTy.str underlying9
theorem QiN : FieldAt prog 96 0 0 1 := ⟨_, _, runUnderlying96, rfl, rfl, sizeOf9, by decide⟩
theorem Qf8 : FieldAt prog 94 0 0 1 := ⟨_, _, runUnderlying94, rfl, rfl, sizeOf9, by decide⟩
theorem Qh8 : FieldAt prog 127 0 0 1 := ⟨_, _, runUnderlying127, rfl, rfl, sizeOf9, by decide⟩
theorem Qh1 : FieldAt prog 152 0 0 1 := ⟨_, _, runUnderlying152, rfl, rfl, sizeOf9, by decide⟩
theorem QhY : FieldAt prog 154 0 0 1 := ⟨_, _, runUnderlying154, rfl, rfl, sizeOf9, by decide⟩
theorem QjK : FieldAt prog 33 9 9 5 := ⟨_, _, runUnderlying33, rfl, rfl, sizeOf31, by decide⟩
theorem Qf5 : FieldAt prog 96 1 1 1 := ⟨_, _, runUnderlying96, rfl, rfl, sizeOf3, by decide⟩
theorem QS : ElemTy prog 48 3 1 := ⟨runUnderlying48, sizeOf3, ⟨_, zeroValue3, rfl⟩, ⟨_, typeInfo3, by decide⟩⟩
theorem Qib : FieldAt prog 123 0 0 1 := ⟨_, _, runUnderlying123, rfl, rfl, sizeOf3, by decide⟩
theorem Qia : FieldAt prog 123 1 1 1 := ⟨_, _, runUnderlying123, rfl, rfl, sizeOf3, by decide⟩
theorem QeU : FieldAt prog 123 2 2 1 := ⟨_, _, runUnderlying123, rfl, rfl, sizeOf3, by decide⟩
theorem QeT : FieldAt prog 123 3 3 1 := ⟨_, _, runUnderlying123, rfl, rfl, sizeOf3, by decide⟩
theorem QhB : prog.underlying 136 = some (.struct (prog.fieldsOf 136)) := by kernel_rfl
theorem QkI : prog.stoodInHeld 136 = false := by kernel_rfl
theorem QcD : KeyTy prog 136 (fun x => A.agg (typing_ends.c x)) := by
  refine KeyTy.struct QhB (fun _ => rfl) (fun x y h => ?_) (fun w em x => ?_) (fun w x y => ?_) (fun x => ?_)
  · cases x; cases y
    simpa [valA, valL, typing_ends.c] using h
  · simp only [valA, valL, typing_ends.c]
    rw [show (10000 : Nat) = 9998 + 1 + 1 from rfl]
    generalize (9998 : Nat) = d
    simp [Instr.checkKey, runUnderlying136, runUnderlying3, Result.andThen, sizeOf3, isAgg3, part]
  · have u3 := underlying3
    have a3 := isAgg3
    have z3 := sizeOf3
    simp only [valA, valL, typing_ends.c, Op.equal, Op.maxDepth]
    rw [show (10000 : Nat) = 9999 + 1 from Z, run_equalIn_agg w 9999 136 _ _ QhB QkI]
    simp only [Program.fieldsOf, underlying136]
    go_simp
    cases x; cases y
    simp
    repeat' split
    all_goals simp_all
  · simp [valA, valL, typing_ends.c, Instr.sameBits]
theorem Qfq : Places prog 136 [(0, 1), (1, 1)] := ⟨_, runUnderlying136, (PL.cons sizeOf3 (PL.cons sizeOf3 PL.nil))⟩
theorem QiO : FieldAt prog 94 2 2 1 := ⟨_, _, runUnderlying94, rfl, rfl, sizeOf3, by decide⟩
theorem Qf6 : FieldAt prog 94 4 4 1 := ⟨_, _, runUnderlying94, rfl, rfl, sizeOf3, by decide⟩
theorem Qh9 : FieldAt prog 125 1 1 1 := ⟨_, _, runUnderlying125, rfl, rfl, sizeOf3, by decide⟩
theorem QeS : FieldAt prog 125 0 0 1 := ⟨_, _, runUnderlying125, rfl, rfl, sizeOf3, by decide⟩
theorem QhV : FieldAt prog 168 0 0 1 := ⟨_, _, runUnderlying168, rfl, rfl, sizeOf3, by decide⟩
theorem QeL : FieldAt prog 168 1 1 1 := ⟨_, _, runUnderlying168, rfl, rfl, sizeOf3, by decide⟩
theorem QhU : FieldAt prog 168 2 2 1 := ⟨_, _, runUnderlying168, rfl, rfl, sizeOf3, by decide⟩
theorem Qh7 : FieldAt prog 127 1 1 1 := ⟨_, _, runUnderlying127, rfl, rfl, sizeOf3, by decide⟩
theorem QhZ : FieldAt prog 152 3 3 1 := ⟨_, _, runUnderlying152, rfl, rfl, sizeOf4, by decide⟩
theorem Qh0 : FieldAt prog 152 1 1 1 := ⟨_, _, runUnderlying152, rfl, rfl, sizeOf3, by decide⟩
theorem Qc5 : FieldAt prog 152 2 2 1 := ⟨_, _, runUnderlying152, rfl, rfl, sizeOf3, by decide⟩
theorem QeP : FieldAt prog 154 1 1 1 := ⟨_, _, runUnderlying154, rfl, rfl, sizeOf3, by decide⟩
theorem QeO : FieldAt prog 154 2 2 1 := ⟨_, _, runUnderlying154, rfl, rfl, sizeOf3, by decide⟩
theorem QhX : FieldAt prog 160 0 0 1 := ⟨_, _, runUnderlying160, rfl, rfl, sizeOf3, by decide⟩
theorem QeN : FieldAt prog 160 1 1 1 := ⟨_, _, runUnderlying160, rfl, rfl, sizeOf3, by decide⟩
theorem QeM : FieldAt prog 160 2 2 1 := ⟨_, _, runUnderlying160, rfl, rfl, sizeOf3, by decide⟩
theorem QhW : FieldAt prog 160 3 3 1 := ⟨_, _, runUnderlying160, rfl, rfl, sizeOf3, by decide⟩
theorem QhA : prog.underlying 218 = some (.struct (prog.fieldsOf 218)) := by kernel_rfl
theorem QkH : prog.stoodInHeld 218 = false := by kernel_rfl
theorem QiK : KeyTy prog 218 (fun x => A.agg (typing_place.c x)) := by
  refine KeyTy.struct QhA (fun _ => rfl) (fun x y h => ?_) (fun w em x => ?_) (fun w x y => ?_) (fun x => ?_)
  · cases x; cases y
    simpa [valA, valL, typing_place.c] using h
  · simp only [valA, valL, typing_place.c]
    rw [show (10000 : Nat) = 9998 + 1 + 1 from rfl]
    generalize (9998 : Nat) = d
    simp [Instr.checkKey, runUnderlying218, runUnderlying3, Result.andThen, sizeOf3, isAgg3, part]
  · have u3 := underlying3
    have a3 := isAgg3
    have z3 := sizeOf3
    simp only [valA, valL, typing_place.c, Op.equal, Op.maxDepth]
    rw [show (10000 : Nat) = 9999 + 1 from Z, run_equalIn_agg w 9999 218 _ _ QhA QkH]
    simp only [Program.fieldsOf, underlying218]
    go_simp
    cases x; cases y
    simp
    repeat' split
    all_goals simp_all
  · simp [valA, valL, typing_place.c, Instr.sameBits]
theorem Qkw : Places prog 218 [(0, 1), (1, 1), (2, 1)] := ⟨_, runUnderlying218, (PL.cons sizeOf3 (PL.cons sizeOf3 (PL.cons sizeOf3 PL.nil)))⟩
theorem QjQ : FieldAt prog 31 0 0 1 := ⟨_, _, runUnderlying31, rfl, rfl, sizeOf3, by decide⟩
theorem QjP : FieldAt prog 31 1 1 1 := ⟨_, _, runUnderlying31, rfl, rfl, sizeOf3, by decide⟩
theorem QjO : FieldAt prog 31 2 2 1 := ⟨_, _, runUnderlying31, rfl, rfl, sizeOf3, by decide⟩
theorem QjN : FieldAt prog 31 3 3 1 := ⟨_, _, runUnderlying31, rfl, rfl, sizeOf3, by decide⟩
theorem QjM : FieldAt prog 31 4 4 1 := ⟨_, _, runUnderlying31, rfl, rfl, sizeOf3, by decide⟩
theorem QhM : FieldAt prog 33 10 14 1 := ⟨_, _, runUnderlying33, rfl, rfl, sizeOf3, by decide⟩
theorem QhL : FieldAt prog 33 11 15 1 := ⟨_, _, runUnderlying33, rfl, rfl, sizeOf3, by decide⟩
theorem QjL : FieldAt prog 33 8 8 1 := ⟨_, _, runUnderlying33, rfl, rfl, sizeOf29, by decide⟩
theorem Qku : Places prog 263 [(0, 8)] := ⟨_, runUnderlying263, (PL.cons sizeOf132 PL.nil)⟩
theorem Qbz : ElemTy prog 221 260 1 := ⟨runUnderlying221, sizeOf260, ⟨_, zeroValue260, rfl⟩, ⟨_, typeInfo260, by decide⟩⟩
theorem Qkv : Places prog 256 [(0, 1), (1, 1)] := ⟨_, runUnderlying256, (PL.cons sizeOf3 (PL.cons sizeOf3 PL.nil))⟩
theorem QhN : FieldAt prog 256 0 0 1 := ⟨_, _, runUnderlying256, rfl, rfl, sizeOf3, by decide⟩
theorem QeJ : FieldAt prog 263 0 0 8 := ⟨_, _, runUnderlying263, rfl, rfl, sizeOf132, by decide⟩
theorem Qh3 : FieldAt prog 132 2 2 4 := ⟨_, _, runUnderlying132, rfl, rfl, sizeOf130, by decide⟩
theorem Qkt : Places prog 298 [(0, 4)] := ⟨_, runUnderlying298, (PL.cons sizeOf130 PL.nil)⟩
theorem QU : FieldAt prog 298 0 0 4 := ⟨_, _, runUnderlying298, rfl, rfl, sizeOf130, by decide⟩
theorem Qh6 : FieldAt prog 130 0 0 1 := ⟨_, _, runUnderlying130, rfl, rfl, sizeOf3, by decide⟩
theorem QeR : FieldAt prog 130 1 1 1 := ⟨_, _, runUnderlying130, rfl, rfl, sizeOf3, by decide⟩
theorem Qa9 : FieldAt prog 130 2 2 1 := ⟨_, _, runUnderlying130, rfl, rfl, sizeOf3, by decide⟩
theorem Yt : FieldAt prog 130 3 3 1 := ⟨_, _, runUnderlying130, rfl, rfl, sizeOf128, by decide⟩
theorem Qa8 : FieldAt prog 256 1 1 1 := ⟨_, _, runUnderlying256, rfl, rfl, sizeOf3, by decide⟩
theorem QeQ : FieldAt prog 132 3 6 1 := ⟨_, _, runUnderlying132, rfl, rfl, sizeOf29, by decide⟩
theorem Qh2 : FieldAt prog 132 4 7 1 := ⟨_, _, runUnderlying132, rfl, rfl, sizeOf29, by decide⟩
theorem Qh5 : FieldAt prog 132 0 0 1 := ⟨_, _, runUnderlying132, rfl, rfl, sizeOf3, by decide⟩
theorem Qh4 : FieldAt prog 132 1 1 1 := ⟨_, _, runUnderlying132, rfl, rfl, sizeOf3, by decide⟩
theorem Qax : KeyTy prog 3 (fun x => A.int .i64 x) := KeyTy.int underlying3
theorem QiU : FieldAt prog 81 4 4 8 := ⟨_, _, runUnderlying81, rfl, rfl, sizeOf50, by decide⟩
theorem QiV : FieldAt prog 81 3 3 1 := ⟨_, _, runUnderlying81, rfl, rfl, sizeOf3, by decide⟩
theorem QhH : FieldAt prog 81 14 53 2 := ⟨_, _, runUnderlying81, rfl, rfl, sizeOf77, by decide⟩
theorem Qi1 : FieldAt prog 77 1 1 1 := ⟨_, _, runUnderlying77, rfl, rfl, sizeOf4, by decide⟩
theorem Qbl : FieldAt prog 50 0 0 1 := ⟨_, _, runUnderlying50, rfl, rfl, sizeOf3, by decide⟩
theorem Qkx : Places prog 181 [(0, 1), (1, 2)] := ⟨_, runUnderlying181, (PL.cons sizeOf175 (PL.cons sizeOf179 PL.nil))⟩
theorem Qga : FieldAt prog 50 1 1 1 := ⟨_, _, runUnderlying50, rfl, rfl, sizeOf3, by decide⟩
theorem Qky : Places prog 179 [(0, 1), (1, 1)] := ⟨_, runUnderlying179, (PL.cons sizeOf3 (PL.cons sizeOf3 PL.nil))⟩
theorem Qf9 : FieldAt prog 50 2 2 1 := ⟨_, _, runUnderlying50, rfl, rfl, sizeOf3, by decide⟩
theorem QjJ : FieldAt prog 50 3 3 1 := ⟨_, _, runUnderlying50, rfl, rfl, sizeOf3, by decide⟩
theorem QjI : FieldAt prog 50 4 4 1 := ⟨_, _, runUnderlying50, rfl, rfl, sizeOf3, by decide⟩
theorem Qd8 : FieldAt prog 50 5 5 1 := ⟨_, _, runUnderlying50, rfl, rfl, sizeOf3, by decide⟩
theorem QjH : FieldAt prog 50 6 6 1 := ⟨_, _, runUnderlying50, rfl, rfl, sizeOf3, by decide⟩
theorem QjG : FieldAt prog 50 7 7 1 := ⟨_, _, runUnderlying50, rfl, rfl, sizeOf3, by decide⟩
theorem Yz : ElemTy prog 169 181 3 := ⟨runUnderlying169, sizeOf181, ⟨_, zeroValue181, rfl⟩, ⟨_, typeInfo181, by decide⟩⟩
theorem Qkz : Places prog 171 [(0, 1), (1, 1)] := ⟨_, runUnderlying171, (PL.cons sizeOf169 (PL.cons sizeOf35 PL.nil))⟩
theorem QiT : FieldAt prog 81 5 12 4 := ⟨_, _, runUnderlying81, rfl, rfl, sizeOf61, by decide⟩
theorem QjF : FieldAt prog 61 0 0 1 := ⟨_, _, runUnderlying61, rfl, rfl, sizeOf3, by decide⟩
theorem QjE : FieldAt prog 61 1 1 1 := ⟨_, _, runUnderlying61, rfl, rfl, sizeOf3, by decide⟩
theorem QjD : FieldAt prog 61 2 2 1 := ⟨_, _, runUnderlying61, rfl, rfl, sizeOf3, by decide⟩
theorem QjC : FieldAt prog 61 3 3 1 := ⟨_, _, runUnderlying61, rfl, rfl, sizeOf3, by decide⟩
theorem QiS : FieldAt prog 81 6 16 5 := ⟨_, _, runUnderlying81, rfl, rfl, sizeOf63, by decide⟩
theorem QjB : FieldAt prog 63 0 0 1 := ⟨_, _, runUnderlying63, rfl, rfl, sizeOf3, by decide⟩
theorem QjA : FieldAt prog 63 1 1 1 := ⟨_, _, runUnderlying63, rfl, rfl, sizeOf3, by decide⟩
theorem Qjz : FieldAt prog 63 2 2 1 := ⟨_, _, runUnderlying63, rfl, rfl, sizeOf3, by decide⟩
theorem Qjy : FieldAt prog 63 3 3 1 := ⟨_, _, runUnderlying63, rfl, rfl, sizeOf3, by decide⟩
theorem Qjx : FieldAt prog 63 4 4 1 := ⟨_, _, runUnderlying63, rfl, rfl, sizeOf3, by decide⟩
theorem QiR : FieldAt prog 81 7 21 8 := ⟨_, _, runUnderlying81, rfl, rfl, sizeOf65, by decide⟩
theorem Qjw : FieldAt prog 65 0 0 1 := ⟨_, _, runUnderlying65, rfl, rfl, sizeOf3, by decide⟩
theorem Qjv : FieldAt prog 65 1 1 1 := ⟨_, _, runUnderlying65, rfl, rfl, sizeOf3, by decide⟩
theorem Qju : FieldAt prog 65 2 2 1 := ⟨_, _, runUnderlying65, rfl, rfl, sizeOf3, by decide⟩
theorem Qjt : FieldAt prog 65 3 3 1 := ⟨_, _, runUnderlying65, rfl, rfl, sizeOf3, by decide⟩
theorem Qjs : FieldAt prog 65 4 4 1 := ⟨_, _, runUnderlying65, rfl, rfl, sizeOf3, by decide⟩
theorem Qjr : FieldAt prog 65 5 5 1 := ⟨_, _, runUnderlying65, rfl, rfl, sizeOf3, by decide⟩
theorem Qjq : FieldAt prog 65 6 6 1 := ⟨_, _, runUnderlying65, rfl, rfl, sizeOf3, by decide⟩
theorem Qjp : FieldAt prog 65 7 7 1 := ⟨_, _, runUnderlying65, rfl, rfl, sizeOf3, by decide⟩
theorem QiQ : FieldAt prog 81 8 29 4 := ⟨_, _, runUnderlying81, rfl, rfl, sizeOf67, by decide⟩
theorem Qjo : FieldAt prog 67 0 0 1 := ⟨_, _, runUnderlying67, rfl, rfl, sizeOf3, by decide⟩
theorem Qjn : FieldAt prog 67 1 1 1 := ⟨_, _, runUnderlying67, rfl, rfl, sizeOf3, by decide⟩
theorem Qjm : FieldAt prog 67 2 2 1 := ⟨_, _, runUnderlying67, rfl, rfl, sizeOf3, by decide⟩
theorem Qjl : FieldAt prog 67 3 3 1 := ⟨_, _, runUnderlying67, rfl, rfl, sizeOf3, by decide⟩
theorem QiP : FieldAt prog 81 9 33 4 := ⟨_, _, runUnderlying81, rfl, rfl, sizeOf69, by decide⟩
theorem Qjk : FieldAt prog 69 0 0 1 := ⟨_, _, runUnderlying69, rfl, rfl, sizeOf3, by decide⟩
theorem Qjj : FieldAt prog 69 1 1 1 := ⟨_, _, runUnderlying69, rfl, rfl, sizeOf3, by decide⟩
theorem Qji : FieldAt prog 69 2 2 1 := ⟨_, _, runUnderlying69, rfl, rfl, sizeOf3, by decide⟩
theorem Qjh : FieldAt prog 69 3 3 1 := ⟨_, _, runUnderlying69, rfl, rfl, sizeOf3, by decide⟩
theorem Qc1 : FieldAt prog 81 10 37 2 := ⟨_, _, runUnderlying81, rfl, rfl, sizeOf59, by decide⟩
theorem QcF : FieldAt prog 59 0 0 1 := ⟨_, _, runUnderlying59, rfl, rfl, sizeOf3, by decide⟩
theorem Qd7 : FieldAt prog 59 1 1 1 := ⟨_, _, runUnderlying59, rfl, rfl, sizeOf3, by decide⟩
theorem QhK : FieldAt prog 81 11 39 4 := ⟨_, _, runUnderlying81, rfl, rfl, sizeOf71, by decide⟩
theorem Qjg : FieldAt prog 71 0 0 1 := ⟨_, _, runUnderlying71, rfl, rfl, sizeOf3, by decide⟩
theorem Qjf : FieldAt prog 71 1 1 1 := ⟨_, _, runUnderlying71, rfl, rfl, sizeOf3, by decide⟩
theorem Qje : FieldAt prog 71 2 2 1 := ⟨_, _, runUnderlying71, rfl, rfl, sizeOf3, by decide⟩
theorem Qjd : FieldAt prog 71 3 3 1 := ⟨_, _, runUnderlying71, rfl, rfl, sizeOf3, by decide⟩
theorem QhJ : FieldAt prog 81 12 43 4 := ⟨_, _, runUnderlying81, rfl, rfl, sizeOf73, by decide⟩
theorem Qjc : FieldAt prog 73 0 0 1 := ⟨_, _, runUnderlying73, rfl, rfl, sizeOf3, by decide⟩
theorem Qjb : FieldAt prog 73 1 1 1 := ⟨_, _, runUnderlying73, rfl, rfl, sizeOf3, by decide⟩
theorem Qja : FieldAt prog 73 2 2 1 := ⟨_, _, runUnderlying73, rfl, rfl, sizeOf3, by decide⟩
theorem Qi9 : FieldAt prog 73 3 3 1 := ⟨_, _, runUnderlying73, rfl, rfl, sizeOf3, by decide⟩
theorem QhI : FieldAt prog 81 13 47 6 := ⟨_, _, runUnderlying81, rfl, rfl, sizeOf75, by decide⟩
theorem Qi6 : FieldAt prog 75 2 2 1 := ⟨_, _, runUnderlying75, rfl, rfl, sizeOf3, by decide⟩
theorem Qi8 : FieldAt prog 75 0 0 1 := ⟨_, _, runUnderlying75, rfl, rfl, sizeOf3, by decide⟩
theorem Qi7 : FieldAt prog 75 1 1 1 := ⟨_, _, runUnderlying75, rfl, rfl, sizeOf3, by decide⟩
theorem Qi5 : FieldAt prog 75 3 3 1 := ⟨_, _, runUnderlying75, rfl, rfl, sizeOf3, by decide⟩
theorem Qi4 : FieldAt prog 75 4 4 1 := ⟨_, _, runUnderlying75, rfl, rfl, sizeOf3, by decide⟩
theorem Qi3 : FieldAt prog 75 5 5 1 := ⟨_, _, runUnderlying75, rfl, rfl, sizeOf3, by decide⟩
theorem Qi2 : FieldAt prog 77 0 0 1 := ⟨_, _, runUnderlying77, rfl, rfl, sizeOf3, by decide⟩
theorem QhG : FieldAt prog 81 15 55 2 := ⟨_, _, runUnderlying81, rfl, rfl, sizeOf79, by decide⟩
theorem Qi0 : FieldAt prog 79 0 0 1 := ⟨_, _, runUnderlying79, rfl, rfl, sizeOf3, by decide⟩
theorem QiZ : FieldAt prog 79 1 1 1 := ⟨_, _, runUnderlying79, rfl, rfl, sizeOf3, by decide⟩
inductive U_facts_open_rxk where
  | c0 (x : Unit)
  | c1 (x : Unit)
  | c2 (x : Unit)
  | c3 (x : Unit)
  | c4 (x : Unit)
  | c5 (x : Unit)
  | c6 (x : Unit)
  | c7 (x : Unit)
  | c8 (x : Unit)
  | c9 (x : Int × Int × Int × Int × Int × Int)
  | c10 (x : Unit)
  | c11 (x : Unit)
  | c12 (x : Unit)
  | c13 (x : Unit)
theorem QhS : FieldAt prog 171 1 1 1 := ⟨_, _, runUnderlying171, rfl, rfl, sizeOf35, by decide⟩
theorem QiY : FieldAt prog 81 0 0 1 := ⟨_, _, runUnderlying81, rfl, rfl, sizeOf3, by decide⟩
theorem QiX : FieldAt prog 81 1 1 1 := ⟨_, _, runUnderlying81, rfl, rfl, sizeOf3, by decide⟩
theorem QiW : FieldAt prog 81 2 2 1 := ⟨_, _, runUnderlying81, rfl, rfl, sizeOf3, by decide⟩
theorem QhT : FieldAt prog 171 0 0 1 := ⟨_, _, runUnderlying171, rfl, rfl, sizeOf169, by decide⟩
theorem Qc4 : FieldAt prog 181 0 0 1 := ⟨_, _, runUnderlying181, rfl, rfl, sizeOf175, by decide⟩
theorem QeK : FieldAt prog 181 1 1 2 := ⟨_, _, runUnderlying181, rfl, rfl, sizeOf179, by decide⟩
theorem QhR : FieldAt prog 179 0 0 1 := ⟨_, _, runUnderlying179, rfl, rfl, sizeOf3, by decide⟩
theorem QhQ : FieldAt prog 179 1 1 1 := ⟨_, _, runUnderlying179, rfl, rfl, sizeOf3, by decide⟩
def Fact.put (x : Fact) (o : Nat) (v : Int) : Option Fact := match o with
  | 0 => some { x with Crew := v }
  | 1 => some { x with No := v }
  | 2 => some { x with At := v }
  | 3 => some { x with Kind := v }
  | 4 => some { x with Starter := { x.Starter with Bib := v } }
  | 5 => some { x with Starter := { x.Starter with Distance := v } }
  | 6 => some { x with Starter := { x.Starter with Wave := v } }
  | 7 => some { x with Starter := { x.Starter with Slot := v } }
  | 8 => some { x with Starter := { x.Starter with Age := v } }
  | 9 => some { x with Starter := { x.Starter with Chip := v } }
  | 10 => some { x with Starter := { x.Starter with Team := v } }
  | 11 => some { x with Starter := { x.Starter with Lot := v } }
  | 12 => some { x with Read := { x.Read with Mat := v } }
  | 13 => some { x with Read := { x.Read with Epoch := v } }
  | 14 => some { x with Read := { x.Read with Chip := v } }
  | 15 => some { x with Read := { x.Read with Local := v } }
  | 16 => some { x with Beacon := { x.Beacon with Mat := v } }
  | 17 => some { x with Beacon := { x.Beacon with Epoch := v } }
  | 18 => some { x with Beacon := { x.Beacon with Local := v } }
  | 19 => some { x with Beacon := { x.Beacon with True := v } }
  | 20 => some { x with Beacon := { x.Beacon with Err := v } }
  | 21 => some { x with Sync := { x.Sync with MatA := v } }
  | 22 => some { x with Sync := { x.Sync with EpochA := v } }
  | 23 => some { x with Sync := { x.Sync with LocalA := v } }
  | 24 => some { x with Sync := { x.Sync with MatB := v } }
  | 25 => some { x with Sync := { x.Sync with EpochB := v } }
  | 26 => some { x with Sync := { x.Sync with LocalB := v } }
  | 27 => some { x with Sync := { x.Sync with Min := v } }
  | 28 => some { x with Sync := { x.Sync with Max := v } }
  | 29 => some { x with Hand := { x.Hand with Bib := v } }
  | 30 => some { x with Hand := { x.Hand with Position := v } }
  | 31 => some { x with Hand := { x.Hand with Lo := v } }
  | 32 => some { x with Hand := { x.Hand with Hi := v } }
  | 33 => some { x with Silence := { x.Silence with Mat := v } }
  | 34 => some { x with Silence := { x.Silence with Epoch := v } }
  | 35 => some { x with Silence := { x.Silence with Lo := v } }
  | 36 => some { x with Silence := { x.Silence with Hi := v } }
  | 37 => some { x with Pair := { x.Pair with A := v } }
  | 38 => some { x with Pair := { x.Pair with B := v } }
  | 39 => some { x with Report := { x.Report with Case := v } }
  | 40 => some { x with Report := { x.Report with Bib := v } }
  | 41 => some { x with Report := { x.Report with Offence := v } }
  | 42 => some { x with Report := { x.Report with Position := v } }
  | 43 => some { x with Protest := { x.Protest with Case := v } }
  | 44 => some { x with Protest := { x.Protest with By := v } }
  | 45 => some { x with Protest := { x.Protest with Fee := v } }
  | 46 => some { x with Protest := { x.Protest with Form := v } }
  | 47 => some { x with Ruling := { x.Ruling with Case := v } }
  | 48 => some { x with Ruling := { x.Ruling with Instance := v } }
  | 49 => some { x with Ruling := { x.Ruling with Kind := v } }
  | 50 => some { x with Ruling := { x.Ruling with Bib := v } }
  | 51 => some { x with Ruling := { x.Ruling with Position := v } }
  | 52 => some { x with Ruling := { x.Ruling with Amount := v } }
  | 53 => some { x with Appeal := { x.Appeal with Case := v } }
  | 55 => some { x with Void := { x.Void with Crew := v } }
  | 56 => some { x with Void := { x.Void with No := v } }
  | _ => none
theorem Qkr : ∀ (x : Fact) (o : Nat) (v : Int) (y : Fact), Fact.put x o v = some y → Fact.c y = (Fact.c x).set o (.int .i64 v) ∧ o < (Fact.c x).length := by
  intro x o v y h
  unfold Fact.put at h
  split at h <;> first | (cases h; exact ⟨Z, Nat.le_of_ble_eq_true Z⟩) | cases h
theorem nt_81 : prog.stoodInHeld 81 = false := by kernel_rfl
theorem nt_79 : prog.stoodInHeld 79 = false := by kernel_rfl
theorem nt_77 : prog.stoodInHeld 77 = false := by kernel_rfl
theorem nt_75 : prog.stoodInHeld 75 = false := by kernel_rfl
theorem nt_73 : prog.stoodInHeld 73 = false := by kernel_rfl
theorem nt_71 : prog.stoodInHeld 71 = false := by kernel_rfl
theorem Qj6 : prog.stoodInHeld 59 = false := by kernel_rfl
theorem nt_69 : prog.stoodInHeld 69 = false := by kernel_rfl
theorem nt_67 : prog.stoodInHeld 67 = false := by kernel_rfl
theorem nt_65 : prog.stoodInHeld 65 = false := by kernel_rfl
theorem nt_63 : prog.stoodInHeld 63 = false := by kernel_rfl
theorem nt_61 : prog.stoodInHeld 61 = false := by kernel_rfl
theorem nt_50 : prog.stoodInHeld 50 = false := by kernel_rfl
theorem QkP : EqD prog 81 Fact.c := by
  refine Qgq (QD underlying81 nt_81 isAgg81 sizeOf81 (EqFs.cons Z (by decide) (EqTy.int underlying3 isAgg3 sizeOf3 1) (fun _ => rfl) (EqFs.cons Z (by decide) (EqTy.int underlying3 isAgg3 sizeOf3 1) (fun _ => rfl) (EqFs.cons Z (by decide) (EqTy.int underlying3 isAgg3 sizeOf3 1) (fun _ => rfl) (EqFs.cons Z (by decide) (EqTy.int underlying3 isAgg3 sizeOf3 1) (fun _ => rfl) (EqFs.cons Z (by decide) (QD underlying50 nt_50 isAgg50 sizeOf50 (EqFs.cons Z (by decide) (EqTy.int underlying3 isAgg3 sizeOf3 0) (fun _ => rfl) (EqFs.cons Z (by decide) (EqTy.int underlying3 isAgg3 sizeOf3 0) (fun _ => rfl) (EqFs.cons Z (by decide) (EqTy.int underlying3 isAgg3 sizeOf3 0) (fun _ => rfl) (EqFs.cons Z (by decide) (EqTy.int underlying3 isAgg3 sizeOf3 0) (fun _ => rfl) (EqFs.cons Z (by decide) (EqTy.int underlying3 isAgg3 sizeOf3 0) (fun _ => rfl) (EqFs.cons Z (by decide) (EqTy.int underlying3 isAgg3 sizeOf3 0) (fun _ => rfl) (EqFs.cons Z (by decide) (EqTy.int underlying3 isAgg3 sizeOf3 0) (fun _ => rfl) (EqFs.cons Z (by decide) (EqTy.int underlying3 isAgg3 sizeOf3 0) (fun _ => rfl) (EqFs.nil _ _)))))))))) (fun e => Bool.noConfusion e) (EqFs.cons Z (by decide) (QD underlying61 nt_61 isAgg61 sizeOf61 (EqFs.cons Z (by decide) (EqTy.int underlying3 isAgg3 sizeOf3 0) (fun _ => rfl) (EqFs.cons Z (by decide) (EqTy.int underlying3 isAgg3 sizeOf3 0) (fun _ => rfl) (EqFs.cons Z (by decide) (EqTy.int underlying3 isAgg3 sizeOf3 0) (fun _ => rfl) (EqFs.cons Z (by decide) (EqTy.int underlying3 isAgg3 sizeOf3 0) (fun _ => rfl) (EqFs.nil _ _)))))) (fun e => Bool.noConfusion e) (EqFs.cons Z (by decide) (QD underlying63 nt_63 isAgg63 sizeOf63 (EqFs.cons Z (by decide) (EqTy.int underlying3 isAgg3 sizeOf3 0) (fun _ => rfl) (EqFs.cons Z (by decide) (EqTy.int underlying3 isAgg3 sizeOf3 0) (fun _ => rfl) (EqFs.cons Z (by decide) (EqTy.int underlying3 isAgg3 sizeOf3 0) (fun _ => rfl) (EqFs.cons Z (by decide) (EqTy.int underlying3 isAgg3 sizeOf3 0) (fun _ => rfl) (EqFs.cons Z (by decide) (EqTy.int underlying3 isAgg3 sizeOf3 0) (fun _ => rfl) (EqFs.nil _ _))))))) (fun e => Bool.noConfusion e) (EqFs.cons Z (by decide) (QD underlying65 nt_65 isAgg65 sizeOf65 (EqFs.cons Z (by decide) (EqTy.int underlying3 isAgg3 sizeOf3 0) (fun _ => rfl) (EqFs.cons Z (by decide) (EqTy.int underlying3 isAgg3 sizeOf3 0) (fun _ => rfl) (EqFs.cons Z (by decide) (EqTy.int underlying3 isAgg3 sizeOf3 0) (fun _ => rfl) (EqFs.cons Z (by decide) (EqTy.int underlying3 isAgg3 sizeOf3 0) (fun _ => rfl) (EqFs.cons Z (by decide) (EqTy.int underlying3 isAgg3 sizeOf3 0) (fun _ => rfl) (EqFs.cons Z (by decide) (EqTy.int underlying3 isAgg3 sizeOf3 0) (fun _ => rfl) (EqFs.cons Z (by decide) (EqTy.int underlying3 isAgg3 sizeOf3 0) (fun _ => rfl) (EqFs.cons Z (by decide) (EqTy.int underlying3 isAgg3 sizeOf3 0) (fun _ => rfl) (EqFs.nil _ _)))))))))) (fun e => Bool.noConfusion e) (EqFs.cons Z (by decide) (QD underlying67 nt_67 isAgg67 sizeOf67 (EqFs.cons Z (by decide) (EqTy.int underlying3 isAgg3 sizeOf3 0) (fun _ => rfl) (EqFs.cons Z (by decide) (EqTy.int underlying3 isAgg3 sizeOf3 0) (fun _ => rfl) (EqFs.cons Z (by decide) (EqTy.int underlying3 isAgg3 sizeOf3 0) (fun _ => rfl) (EqFs.cons Z (by decide) (EqTy.int underlying3 isAgg3 sizeOf3 0) (fun _ => rfl) (EqFs.nil _ _)))))) (fun e => Bool.noConfusion e) (EqFs.cons Z (by decide) (QD underlying69 nt_69 isAgg69 sizeOf69 (EqFs.cons Z (by decide) (EqTy.int underlying3 isAgg3 sizeOf3 0) (fun _ => rfl) (EqFs.cons Z (by decide) (EqTy.int underlying3 isAgg3 sizeOf3 0) (fun _ => rfl) (EqFs.cons Z (by decide) (EqTy.int underlying3 isAgg3 sizeOf3 0) (fun _ => rfl) (EqFs.cons Z (by decide) (EqTy.int underlying3 isAgg3 sizeOf3 0) (fun _ => rfl) (EqFs.nil _ _)))))) (fun e => Bool.noConfusion e) (EqFs.cons Z (by decide) (QD underlying59 Qj6 isAgg59 sizeOf59 (EqFs.cons Z (by decide) (EqTy.int underlying3 isAgg3 sizeOf3 0) (fun _ => rfl) (EqFs.cons Z (by decide) (EqTy.int underlying3 isAgg3 sizeOf3 0) (fun _ => rfl) (EqFs.nil _ _)))) (fun e => Bool.noConfusion e) (EqFs.cons Z (by decide) (QD underlying71 nt_71 isAgg71 sizeOf71 (EqFs.cons Z (by decide) (EqTy.int underlying3 isAgg3 sizeOf3 0) (fun _ => rfl) (EqFs.cons Z (by decide) (EqTy.int underlying3 isAgg3 sizeOf3 0) (fun _ => rfl) (EqFs.cons Z (by decide) (EqTy.int underlying3 isAgg3 sizeOf3 0) (fun _ => rfl) (EqFs.cons Z (by decide) (EqTy.int underlying3 isAgg3 sizeOf3 0) (fun _ => rfl) (EqFs.nil _ _)))))) (fun e => Bool.noConfusion e) (EqFs.cons Z (by decide) (QD underlying73 nt_73 isAgg73 sizeOf73 (EqFs.cons Z (by decide) (EqTy.int underlying3 isAgg3 sizeOf3 0) (fun _ => rfl) (EqFs.cons Z (by decide) (EqTy.int underlying3 isAgg3 sizeOf3 0) (fun _ => rfl) (EqFs.cons Z (by decide) (EqTy.int underlying3 isAgg3 sizeOf3 0) (fun _ => rfl) (EqFs.cons Z (by decide) (EqTy.int underlying3 isAgg3 sizeOf3 0) (fun _ => rfl) (EqFs.nil _ _)))))) (fun e => Bool.noConfusion e) (EqFs.cons Z (by decide) (QD underlying75 nt_75 isAgg75 sizeOf75 (EqFs.cons Z (by decide) (EqTy.int underlying3 isAgg3 sizeOf3 0) (fun _ => rfl) (EqFs.cons Z (by decide) (EqTy.int underlying3 isAgg3 sizeOf3 0) (fun _ => rfl) (EqFs.cons Z (by decide) (EqTy.int underlying3 isAgg3 sizeOf3 0) (fun _ => rfl) (EqFs.cons Z (by decide) (EqTy.int underlying3 isAgg3 sizeOf3 0) (fun _ => rfl) (EqFs.cons Z (by decide) (EqTy.int underlying3 isAgg3 sizeOf3 0) (fun _ => rfl) (EqFs.cons Z (by decide) (EqTy.int underlying3 isAgg3 sizeOf3 0) (fun _ => rfl) (EqFs.nil _ _)))))))) (fun e => Bool.noConfusion e) (EqFs.cons Z (by decide) (QD underlying77 nt_77 isAgg77 sizeOf77 (EqFs.cons Z (by decide) (EqTy.int underlying3 isAgg3 sizeOf3 0) (fun _ => rfl) (EqFs.cons Z (by decide) (EqTy.bool underlying4 isAgg4 sizeOf4 0) (fun _ => rfl) (EqFs.nil _ _)))) (fun e => Bool.noConfusion e) (EqFs.cons Z (by decide) (QD underlying79 nt_79 isAgg79 sizeOf79 (EqFs.cons Z (by decide) (EqTy.int underlying3 isAgg3 sizeOf3 0) (fun _ => rfl) (EqFs.cons Z (by decide) (EqTy.int underlying3 isAgg3 sizeOf3 0) (fun _ => rfl) (EqFs.nil _ _)))) (fun e => Bool.noConfusion e) (EqFs.nil _ _)))))))))))))))))) Z (fun x => ⟨[_], _, Z, ⟨_, Z⟩, [_], _, Z, ⟨_, Z⟩, [_], _, Z, ⟨_, Z⟩, [_], _, Z, ⟨_, Z⟩, [_, _, _, _, _, _, _, _], _, Z, ⟨[_], _, Z, ⟨_, Z⟩, [_], _, Z, ⟨_, Z⟩, [_], _, Z, ⟨_, Z⟩, [_], _, Z, ⟨_, Z⟩, [_], _, Z, ⟨_, Z⟩, [_], _, Z, ⟨_, Z⟩, [_], _, Z, ⟨_, Z⟩, [_], _, Z, ⟨_, Z⟩, Z⟩, [_, _, _, _], _, Z, ⟨[_], _, Z, ⟨_, Z⟩, [_], _, Z, ⟨_, Z⟩, [_], _, Z, ⟨_, Z⟩, [_], _, Z, ⟨_, Z⟩, Z⟩, [_, _, _, _, _], _, Z, ⟨[_], _, Z, ⟨_, Z⟩, [_], _, Z, ⟨_, Z⟩, [_], _, Z, ⟨_, Z⟩, [_], _, Z, ⟨_, Z⟩, [_], _, Z, ⟨_, Z⟩, Z⟩, [_, _, _, _, _, _, _, _], _, Z, ⟨[_], _, Z, ⟨_, Z⟩, [_], _, Z, ⟨_, Z⟩, [_], _, Z, ⟨_, Z⟩, [_], _, Z, ⟨_, Z⟩, [_], _, Z, ⟨_, Z⟩, [_], _, Z, ⟨_, Z⟩, [_], _, Z, ⟨_, Z⟩, [_], _, Z, ⟨_, Z⟩, Z⟩, [_, _, _, _], _, Z, ⟨[_], _, Z, ⟨_, Z⟩, [_], _, Z, ⟨_, Z⟩, [_], _, Z, ⟨_, Z⟩, [_], _, Z, ⟨_, Z⟩, Z⟩, [_, _, _, _], _, Z, ⟨[_], _, Z, ⟨_, Z⟩, [_], _, Z, ⟨_, Z⟩, [_], _, Z, ⟨_, Z⟩, [_], _, Z, ⟨_, Z⟩, Z⟩, [_, _], _, Z, ⟨[_], _, Z, ⟨_, Z⟩, [_], _, Z, ⟨_, Z⟩, Z⟩, [_, _, _, _], _, Z, ⟨[_], _, Z, ⟨_, Z⟩, [_], _, Z, ⟨_, Z⟩, [_], _, Z, ⟨_, Z⟩, [_], _, Z, ⟨_, Z⟩, Z⟩, [_, _, _, _], _, Z, ⟨[_], _, Z, ⟨_, Z⟩, [_], _, Z, ⟨_, Z⟩, [_], _, Z, ⟨_, Z⟩, [_], _, Z, ⟨_, Z⟩, Z⟩, [_, _, _, _, _, _], _, Z, ⟨[_], _, Z, ⟨_, Z⟩, [_], _, Z, ⟨_, Z⟩, [_], _, Z, ⟨_, Z⟩, [_], _, Z, ⟨_, Z⟩, [_], _, Z, ⟨_, Z⟩, [_], _, Z, ⟨_, Z⟩, Z⟩, [_, _], _, Z, ⟨[_], _, Z, ⟨_, Z⟩, [_], _, Z, ⟨_, Z⟩, Z⟩, [_, _], _, Z, ⟨[_], _, Z, ⟨_, Z⟩, [_], _, Z, ⟨_, Z⟩, Z⟩, Z⟩) (fun _ => rfl) (fun x y h => ?_) (by kernel_rfl)
  obtain ⟨p1, p2, p3, p4, ⟨p5, p6, p7, p8, p9, p10, p11, p12⟩, ⟨p13, p14, p15, p16⟩, ⟨p17, p18, p19, p20, p21⟩, ⟨p22, p23, p24, p25, p26, p27, p28, p29⟩, ⟨p30, p31, p32, p33⟩, ⟨p34, p35, p36, p37⟩, ⟨p38, p39⟩, ⟨p40, p41, p42, p43⟩, ⟨p44, p45, p46, p47⟩, ⟨p48, p49, p50, p51, p52, p53⟩, ⟨p54, p55⟩, ⟨p56, p57⟩⟩ := x
  obtain ⟨q58, q59, q60, q61, ⟨q62, q63, q64, q65, q66, q67, q68, q69⟩, ⟨q70, q71, q72, q73⟩, ⟨q74, q75, q76, q77, q78⟩, ⟨q79, q80, q81, q82, q83, q84, q85, q86⟩, ⟨q87, q88, q89, q90⟩, ⟨q91, q92, q93, q94⟩, ⟨q95, q96⟩, ⟨q97, q98, q99, q100⟩, ⟨q101, q102, q103, q104⟩, ⟨q105, q106, q107, q108, q109, q110⟩, ⟨q111, q112⟩, ⟨q113, q114⟩⟩ := y
  simpa [valA, valL, Fact.c, Starter.c, Read.c, Beacon.c, Sync.c, Hand.c, Silence.c, Pair.c, Report.c, Protest.c, Ruling.c, Appeal.c, Ref.c, and_assoc] using h
theorem Qhf : Places prog 184 [(0, 1), (1, 1), (2, 1), (3, 1)] := ⟨_, runUnderlying184, (PL.cons sizeOf3 (PL.cons sizeOf3 (PL.cons sizeOf9 (PL.cons sizeOf182 PL.nil))))⟩
theorem QbN : FieldAt prog 184 3 3 1 := ⟨_, _, runUnderlying184, rfl, rfl, sizeOf182, by decide⟩
theorem Qim : ElemTy prog 182 184 4 := ⟨runUnderlying182, sizeOf184, ⟨_, zeroValue184, rfl⟩, ⟨_, typeInfo184, by decide⟩⟩
theorem Qc2 : FieldAt prog 184 2 2 1 := ⟨_, _, runUnderlying184, rfl, rfl, sizeOf9, by decide⟩
theorem QhP : FieldAt prog 184 1 1 1 := ⟨_, _, runUnderlying184, rfl, rfl, sizeOf3, by decide⟩
theorem Qc3 : FieldAt prog 184 0 0 1 := ⟨_, _, runUnderlying184, rfl, rfl, sizeOf3, by decide⟩
theorem QhO : FieldAt prog 248 0 0 1 := ⟨_, _, runUnderlying248, rfl, rfl, sizeOf246, by decide⟩
theorem QiF (m : List (Int × Fact)) (hl : Nat.ble (List.map Prod.fst m).length lenMax = true) : C prog 127 [.fn (.func 129) [] [.ptr 0 0]] [.cells 98 [.map 1], .fmap (menc (fun x => A.int .i64 x) (fun x => A.agg (Fact.c x)) m)] (fun r H => ∃ p : List Int, p.Perm (List.map Prod.fst m) ∧ r = .osl 2 0 p.length 1 ∧ H = [.dead, .fmap (menc (fun x => A.int .i64 x) (fun x => A.agg (Fact.c x)) m), .row 3 1 (List.map (encI .i64) p)]) :=
  QdU func127 Z Z Z (fun env H h => OpC.fn (xs := [.const (.slice none 0 0), .tmp 3]) call174 Z Z (by show [_, lk env 3] = _; rw [h]; rfl)) (Qg0 func174 Z Z Z QS isAgg48 sizeOf48 call129 (QfJ func129 Z Z Z isAgg98 underlying98 (fun _ => rfl)) hl (fun _ => rfl) (fun _ => rfl) (fun _ => rfl) (fun _ => rfl) (fun _ => rfl))
theorem Qka : ElemTy prog 38 50 8 := ⟨runUnderlying38, sizeOf50, ⟨_, zeroValue50, rfl⟩, ⟨_, typeInfo50, by decide⟩⟩
theorem Qj9 : prog.underlying 59 = some (.struct (prog.fieldsOf 59)) := by kernel_rfl
theorem ns_59 : prog.stoodInHeld 59 = false := by kernel_rfl
theorem QkL : KeyTy prog 59 (fun x => A.agg (Pair.c x)) := by
  refine KeyTy.struct Qj9 (fun _ => rfl) (fun x y h => ?_) (fun w em x => ?_) (fun w x y => ?_) (fun x => ?_)
  · cases x; cases y
    simpa [valA, valL, Pair.c] using h
  · simp only [valA, valL, Pair.c]
    rw [show (10000 : Nat) = 9998 + 1 + 1 from rfl]
    generalize (9998 : Nat) = d
    simp [Instr.checkKey, runUnderlying59, runUnderlying3, Result.andThen, sizeOf3, isAgg3, part]
  · have u3 := underlying3
    have a3 := isAgg3
    have z3 := sizeOf3
    simp only [valA, valL, Pair.c, Op.equal, Op.maxDepth]
    rw [show (10000 : Nat) = 9999 + 1 from Z, run_equalIn_agg w 9999 59 _ _ Qj9 ns_59]
    simp only [Program.fieldsOf, underlying59]
    go_simp
    cases x; cases y
    simp
    repeat' split
    all_goals simp_all
  · simp [valA, valL, Pair.c, Instr.sameBits]
theorem el_42 : ElemTy prog 42 59 2 := ⟨runUnderlying42, sizeOf59, ⟨_, zeroValue59, rfl⟩, ⟨_, typeInfo59, by decide⟩⟩
theorem QkF (m : List (Pair × Bool)) (hl : Nat.ble (List.map Prod.fst m).length lenMax = true) : C prog 64 [.fn (.func 66) [] [.ptr 0 0]] [.cells 103 [.map 1], .fmap (menc (fun x => A.agg (Pair.c x)) A.bool m)] (fun r H => ∃ p : List Pair, p.Perm (List.map Prod.fst m) ∧ r = .osl 2 0 p.length 2 ∧ H = [.dead, .fmap (menc (fun x => A.agg (Pair.c x)) A.bool m), .row 59 2 (List.map Pair.c p)]) :=
  QdU func64 Z Z Z (fun env H h => OpC.fn (xs := [.const (.slice none 0 0), .tmp 3]) call136 Z Z (by show [_, lk env 3] = _; rw [h]; rfl)) (Qg1 (e := Pair.c) func136 Z Z Z el_42 isAgg42 sizeOf42 isAgg59 zeroValue59 (ZR.agg (ZL.cons ZR.int (ZL.cons ZR.int ZL.nil))) Z Z Z Z call66 (QfK (e := Pair.c) func66 Z Z Z isAgg103 underlying103 (fun _ => rfl) isAgg59 zeroValue59 sizeOf59 (ZR.agg (ZL.cons ZR.int (ZL.cons ZR.int ZL.nil))) Z Z Z Z (fun _ => rfl) (fun _ => rfl) (fun _ => rfl) (fun _ => rfl)) hl Z (fun _ => rfl) (fun _ => rfl) (fun _ => rfl) (fun _ => rfl) (fun _ => rfl) (fun _ => rfl))
theorem QkQ : EqD prog 59 Pair.c := by
  refine Qgq (QD underlying59 Qj6 isAgg59 sizeOf59 (EqFs.cons Z (by decide) (EqTy.int underlying3 isAgg3 sizeOf3 0) (fun _ => rfl) (EqFs.cons Z (by decide) (EqTy.int underlying3 isAgg3 sizeOf3 0) (fun _ => rfl) (EqFs.nil _ _)))) Z (fun x => ⟨[_], _, Z, ⟨_, Z⟩, [_], _, Z, ⟨_, Z⟩, Z⟩) (fun _ => rfl) (fun x y h => ?_) (by kernel_rfl)
  obtain ⟨p1, p2⟩ := x
  obtain ⟨q3, q4⟩ := y
  simpa [valA, valL, Pair.c, and_assoc] using h
theorem QkR : ElemTy prog 128 130 4 := ⟨runUnderlying128, sizeOf130, ⟨_, zeroValue130, rfl⟩, ⟨_, typeInfo130, by decide⟩⟩
def tyT : TyI := { fld := [(125, 2, 2), (33, 1, 1), (33, 3, 3), (94, 1, 1), (94, 3, 3), (96, 0, 0), (94, 0, 0), (127, 0, 0), (152, 0, 0), (154, 0, 0), (33, 0, 0), (96, 1, 1), (123, 0, 0), (123, 1, 1), (125, 1, 1), (125, 0, 0), (168, 0, 0), (94, 2, 2), (127, 1, 1), (152, 3, 3), (152, 1, 1), (152, 2, 2), (154, 1, 1), (154, 2, 2), (160, 0, 0), (160, 1, 1), (160, 2, 2), (33, 9, 9), (298, 0, 0), (130, 0, 0), (263, 0, 0), (132, 3, 6), (132, 4, 7), (130, 3, 3), (256, 0, 0), (132, 2, 2), (256, 1, 1), (130, 1, 1), (132, 0, 0), (132, 1, 1), (168, 1, 1), (94, 4, 4), (33, 8, 8), (33, 2, 2), (81, 3, 3), (81, 4, 4), (50, 0, 0), (50, 1, 1), (50, 2, 2), (50, 3, 3), (50, 4, 4), (50, 5, 5), (50, 6, 6), (50, 7, 7), (81, 5, 12), (61, 0, 0), (61, 1, 1), (61, 2, 2), (61, 3, 3), (81, 6, 16), (63, 0, 0), (63, 1, 1), (63, 2, 2), (63, 3, 3), (63, 4, 4), (81, 7, 21), (65, 0, 0), (65, 1, 1), (65, 2, 2), (65, 3, 3), (65, 4, 4), (65, 5, 5), (65, 6, 6), (65, 7, 7), (81, 8, 29), (67, 0, 0), (67, 1, 1), (67, 2, 2), (67, 3, 3), (81, 9, 33), (69, 0, 0), (69, 1, 1), (69, 2, 2), (69, 3, 3), (81, 10, 37), (59, 0, 0), (59, 1, 1), (81, 11, 39), (71, 0, 0), (71, 1, 1), (71, 2, 2), (71, 3, 3), (81, 12, 43), (73, 0, 0), (73, 1, 1), (73, 2, 2), (73, 3, 3), (81, 13, 47), (75, 2, 2), (75, 0, 0), (75, 1, 1), (75, 3, 3), (75, 4, 4), (75, 5, 5), (81, 14, 53), (77, 0, 0), (81, 15, 55), (79, 0, 0), (79, 1, 1), (81, 0, 0), (81, 1, 1), (81, 2, 2), (171, 0, 0), (77, 1, 1), (171, 1, 1), (181, 0, 0), (181, 1, 1), (179, 0, 0), (184, 2, 2), (184, 1, 1), (184, 0, 0), (184, 3, 3), (248, 0, 0)], agg := [(81, true, 57), (33, true, 16), (125, true, 3), (91, false, 1), (22, false, 1), (24, false, 1), (94, true, 5), (92, false, 1), (5, false, 1), (9, false, 1), (96, true, 2), (127, true, 2), (152, true, 4), (154, true, 3), (3, false, 1), (206, false, 1), (202, false, 1), (123, true, 4), (136, true, 2), (197, false, 1), (200, false, 1), (168, true, 3), (139, false, 1), (211, false, 1), (4, false, 1), (203, false, 1), (214, false, 1), (204, false, 1), (160, true, 4), (218, true, 3), (31, true, 5), (132, true, 8), (29, false, 1), (130, true, 4), (128, false, 1), (263, true, 8), (298, true, 4), (260, false, 1), (223, false, 1), (134, false, 1), (23, false, 1), (179, true, 2), (171, true, 2), (238, false, 1), (239, false, 1), (240, false, 1), (241, false, 1), (169, false, 1), (35, false, 1), (181, true, 3), (175, false, 1), (182, false, 1), (184, true, 4), (249, false, 1), (246, false, 1), (50, true, 8), (59, true, 2)], zer := [(50, [.int .i64 0, .int .i64 0, .int .i64 0, .int .i64 0, .int .i64 0, .int .i64 0, .int .i64 0, .int .i64 0], [(0, 1), (1, 1), (2, 1), (3, 1), (4, 1), (5, 1), (6, 1), (7, 1)]), (81, [.int .i64 0, .int .i64 0, .int .i64 0, .int .i64 0, .int .i64 0, .int .i64 0, .int .i64 0, .int .i64 0, .int .i64 0, .int .i64 0, .int .i64 0, .int .i64 0, .int .i64 0, .int .i64 0, .int .i64 0, .int .i64 0, .int .i64 0, .int .i64 0, .int .i64 0, .int .i64 0, .int .i64 0, .int .i64 0, .int .i64 0, .int .i64 0, .int .i64 0, .int .i64 0, .int .i64 0, .int .i64 0, .int .i64 0, .int .i64 0, .int .i64 0, .int .i64 0, .int .i64 0, .int .i64 0, .int .i64 0, .int .i64 0, .int .i64 0, .int .i64 0, .int .i64 0, .int .i64 0, .int .i64 0, .int .i64 0, .int .i64 0, .int .i64 0, .int .i64 0, .int .i64 0, .int .i64 0, .int .i64 0, .int .i64 0, .int .i64 0, .int .i64 0, .int .i64 0, .int .i64 0, .int .i64 0, .bool false, .int .i64 0, .int .i64 0], [(0, 1), (1, 1), (2, 1), (3, 1), (4, 8), (12, 4), (16, 5), (21, 8), (29, 4), (33, 4), (37, 2), (39, 4), (43, 4), (47, 6), (53, 2), (55, 2)]), (123, [.int .i64 0, .int .i64 0, .int .i64 0, .int .i64 0], [(0, 1), (1, 1), (2, 1), (3, 1)]), (125, [.int .i64 0, .int .i64 0, .rsl 3 (List.map Part.enc [])], [(0, 1), (1, 1), (2, 1)]), (132, [.int .i64 0, .int .i64 0, .int .i64 0, .int .i64 0, .int .i64 0, .rsl 4 (List.map Cond.enc []), .rsl 8 (List.map Step.enc []), .rsl 8 (List.map Step.enc [])], [(0, 1), (1, 1), (2, 4), (6, 1), (7, 1)]), (136, [.int .i64 0, .int .i64 0], [(0, 1), (1, 1)]), (218, [.int .i64 0, .int .i64 0, .int .i64 0], [(0, 1), (1, 1), (2, 1)]), (263, [.int .i64 0, .int .i64 0, .int .i64 0, .int .i64 0, .int .i64 0, .rsl 4 (List.map Cond.enc []), .rsl 8 (List.map Step.enc []), .rsl 8 (List.map Step.enc [])], [(0, 8)]), (298, [.int .i64 0, .int .i64 0, .int .i64 0, .rsl 4 (List.map Cond.enc [])], [(0, 4)]), (256, [.int .i64 0, .int .i64 0], [(0, 1), (1, 1)]), (181, [.nilp, .int .i64 0, .int .i64 0], [(0, 1), (1, 2)]), (179, [.int .i64 0, .int .i64 0], [(0, 1), (1, 1)]), (171, [.nils, .nilf], [(0, 1), (1, 1)]), (184, [.int .i64 0, .int .i64 0, .str [], .rsl 4 (List.map Value.enc [])], [(0, 1), (1, 1), (2, 1), (3, 1)]), (59, [.int .i64 0, .int .i64 0], [(0, 1), (1, 1)])] }
theorem tyOK : TyOK prog tyT :=
  ⟨List.forall_mem_cons.2 ⟨⟨_, QbO⟩, List.forall_mem_cons.2 ⟨⟨_, Qd9⟩, List.forall_mem_cons.2 ⟨⟨_, QaE⟩, List.forall_mem_cons.2 ⟨⟨_, Qf7⟩, List.forall_mem_cons.2 ⟨⟨_, Qd6⟩, List.forall_mem_cons.2 ⟨⟨_, QiN⟩, List.forall_mem_cons.2 ⟨⟨_, Qf8⟩, List.forall_mem_cons.2 ⟨⟨_, Qh8⟩, List.forall_mem_cons.2 ⟨⟨_, Qh1⟩, List.forall_mem_cons.2 ⟨⟨_, QhY⟩, List.forall_mem_cons.2 ⟨⟨_, Qgb⟩, List.forall_mem_cons.2 ⟨⟨_, Qf5⟩, List.forall_mem_cons.2 ⟨⟨_, Qib⟩, List.forall_mem_cons.2 ⟨⟨_, Qia⟩, List.forall_mem_cons.2 ⟨⟨_, Qh9⟩, List.forall_mem_cons.2 ⟨⟨_, QeS⟩, List.forall_mem_cons.2 ⟨⟨_, QhV⟩, List.forall_mem_cons.2 ⟨⟨_, QiO⟩, List.forall_mem_cons.2 ⟨⟨_, Qh7⟩, List.forall_mem_cons.2 ⟨⟨_, QhZ⟩, List.forall_mem_cons.2 ⟨⟨_, Qh0⟩, List.forall_mem_cons.2 ⟨⟨_, Qc5⟩, List.forall_mem_cons.2 ⟨⟨_, QeP⟩, List.forall_mem_cons.2 ⟨⟨_, QeO⟩, List.forall_mem_cons.2 ⟨⟨_, QhX⟩, List.forall_mem_cons.2 ⟨⟨_, QeN⟩, List.forall_mem_cons.2 ⟨⟨_, QeM⟩, List.forall_mem_cons.2 ⟨⟨_, QjK⟩, List.forall_mem_cons.2 ⟨⟨_, QU⟩, List.forall_mem_cons.2 ⟨⟨_, Qh6⟩, List.forall_mem_cons.2 ⟨⟨_, QeJ⟩, List.forall_mem_cons.2 ⟨⟨_, QeQ⟩, List.forall_mem_cons.2 ⟨⟨_, Qh2⟩, List.forall_mem_cons.2 ⟨⟨_, Yt⟩, List.forall_mem_cons.2 ⟨⟨_, QhN⟩, List.forall_mem_cons.2 ⟨⟨_, Qh3⟩, List.forall_mem_cons.2 ⟨⟨_, Qa8⟩, List.forall_mem_cons.2 ⟨⟨_, QeR⟩, List.forall_mem_cons.2 ⟨⟨_, Qh5⟩, List.forall_mem_cons.2 ⟨⟨_, Qh4⟩, List.forall_mem_cons.2 ⟨⟨_, QeL⟩, List.forall_mem_cons.2 ⟨⟨_, Qf6⟩, List.forall_mem_cons.2 ⟨⟨_, QjL⟩, List.forall_mem_cons.2 ⟨⟨_, QbM⟩, List.forall_mem_cons.2 ⟨⟨_, QiV⟩, List.forall_mem_cons.2 ⟨⟨_, QiU⟩, List.forall_mem_cons.2 ⟨⟨_, Qbl⟩, List.forall_mem_cons.2 ⟨⟨_, Qga⟩, List.forall_mem_cons.2 ⟨⟨_, Qf9⟩, List.forall_mem_cons.2 ⟨⟨_, QjJ⟩, List.forall_mem_cons.2 ⟨⟨_, QjI⟩, List.forall_mem_cons.2 ⟨⟨_, Qd8⟩, List.forall_mem_cons.2 ⟨⟨_, QjH⟩, List.forall_mem_cons.2 ⟨⟨_, QjG⟩, List.forall_mem_cons.2 ⟨⟨_, QiT⟩, List.forall_mem_cons.2 ⟨⟨_, QjF⟩, List.forall_mem_cons.2 ⟨⟨_, QjE⟩, List.forall_mem_cons.2 ⟨⟨_, QjD⟩, List.forall_mem_cons.2 ⟨⟨_, QjC⟩, List.forall_mem_cons.2 ⟨⟨_, QiS⟩, List.forall_mem_cons.2 ⟨⟨_, QjB⟩, List.forall_mem_cons.2 ⟨⟨_, QjA⟩, List.forall_mem_cons.2 ⟨⟨_, Qjz⟩, List.forall_mem_cons.2 ⟨⟨_, Qjy⟩, List.forall_mem_cons.2 ⟨⟨_, Qjx⟩, List.forall_mem_cons.2 ⟨⟨_, QiR⟩, List.forall_mem_cons.2 ⟨⟨_, Qjw⟩, List.forall_mem_cons.2 ⟨⟨_, Qjv⟩, List.forall_mem_cons.2 ⟨⟨_, Qju⟩, List.forall_mem_cons.2 ⟨⟨_, Qjt⟩, List.forall_mem_cons.2 ⟨⟨_, Qjs⟩, List.forall_mem_cons.2 ⟨⟨_, Qjr⟩, List.forall_mem_cons.2 ⟨⟨_, Qjq⟩, List.forall_mem_cons.2 ⟨⟨_, Qjp⟩, List.forall_mem_cons.2 ⟨⟨_, QiQ⟩, List.forall_mem_cons.2 ⟨⟨_, Qjo⟩, List.forall_mem_cons.2 ⟨⟨_, Qjn⟩, List.forall_mem_cons.2 ⟨⟨_, Qjm⟩, List.forall_mem_cons.2 ⟨⟨_, Qjl⟩, List.forall_mem_cons.2 ⟨⟨_, QiP⟩, List.forall_mem_cons.2 ⟨⟨_, Qjk⟩, List.forall_mem_cons.2 ⟨⟨_, Qjj⟩, List.forall_mem_cons.2 ⟨⟨_, Qji⟩, List.forall_mem_cons.2 ⟨⟨_, Qjh⟩, List.forall_mem_cons.2 ⟨⟨_, Qc1⟩, List.forall_mem_cons.2 ⟨⟨_, QcF⟩, List.forall_mem_cons.2 ⟨⟨_, Qd7⟩, List.forall_mem_cons.2 ⟨⟨_, QhK⟩, List.forall_mem_cons.2 ⟨⟨_, Qjg⟩, List.forall_mem_cons.2 ⟨⟨_, Qjf⟩, List.forall_mem_cons.2 ⟨⟨_, Qje⟩, List.forall_mem_cons.2 ⟨⟨_, Qjd⟩, List.forall_mem_cons.2 ⟨⟨_, QhJ⟩, List.forall_mem_cons.2 ⟨⟨_, Qjc⟩, List.forall_mem_cons.2 ⟨⟨_, Qjb⟩, List.forall_mem_cons.2 ⟨⟨_, Qja⟩, List.forall_mem_cons.2 ⟨⟨_, Qi9⟩, List.forall_mem_cons.2 ⟨⟨_, QhI⟩, List.forall_mem_cons.2 ⟨⟨_, Qi6⟩, List.forall_mem_cons.2 ⟨⟨_, Qi8⟩, List.forall_mem_cons.2 ⟨⟨_, Qi7⟩, List.forall_mem_cons.2 ⟨⟨_, Qi5⟩, List.forall_mem_cons.2 ⟨⟨_, Qi4⟩, List.forall_mem_cons.2 ⟨⟨_, Qi3⟩, List.forall_mem_cons.2 ⟨⟨_, QhH⟩, List.forall_mem_cons.2 ⟨⟨_, Qi2⟩, List.forall_mem_cons.2 ⟨⟨_, QhG⟩, List.forall_mem_cons.2 ⟨⟨_, Qi0⟩, List.forall_mem_cons.2 ⟨⟨_, QiZ⟩, List.forall_mem_cons.2 ⟨⟨_, QiY⟩, List.forall_mem_cons.2 ⟨⟨_, QiX⟩, List.forall_mem_cons.2 ⟨⟨_, QiW⟩, List.forall_mem_cons.2 ⟨⟨_, QhT⟩, List.forall_mem_cons.2 ⟨⟨_, Qi1⟩, List.forall_mem_cons.2 ⟨⟨_, QhS⟩, List.forall_mem_cons.2 ⟨⟨_, Qc4⟩, List.forall_mem_cons.2 ⟨⟨_, QeK⟩, List.forall_mem_cons.2 ⟨⟨_, QhR⟩, List.forall_mem_cons.2 ⟨⟨_, Qc2⟩, List.forall_mem_cons.2 ⟨⟨_, QhP⟩, List.forall_mem_cons.2 ⟨⟨_, Qc3⟩, List.forall_mem_cons.2 ⟨⟨_, QbN⟩, List.forall_mem_cons.2 ⟨⟨_, QhO⟩, List.forall_mem_nil _⟩⟩⟩⟩⟩⟩⟩⟩⟩⟩⟩⟩⟩⟩⟩⟩⟩⟩⟩⟩⟩⟩⟩⟩⟩⟩⟩⟩⟩⟩⟩⟩⟩⟩⟩⟩⟩⟩⟩⟩⟩⟩⟩⟩⟩⟩⟩⟩⟩⟩⟩⟩⟩⟩⟩⟩⟩⟩⟩⟩⟩⟩⟩⟩⟩⟩⟩⟩⟩⟩⟩⟩⟩⟩⟩⟩⟩⟩⟩⟩⟩⟩⟩⟩⟩⟩⟩⟩⟩⟩⟩⟩⟩⟩⟩⟩⟩⟩⟩⟩⟩⟩⟩⟩⟩⟩⟩⟩⟩⟩⟩⟩⟩⟩⟩⟩⟩⟩⟩⟩⟩⟩⟩,
   List.forall_mem_cons.2 ⟨⟨isAgg81, sizeOf81⟩, List.forall_mem_cons.2 ⟨⟨isAgg33, sizeOf33⟩, List.forall_mem_cons.2 ⟨⟨isAgg125, sizeOf125⟩, List.forall_mem_cons.2 ⟨⟨isAgg91, sizeOf91⟩, List.forall_mem_cons.2 ⟨⟨isAgg22, sizeOf22⟩, List.forall_mem_cons.2 ⟨⟨isAgg24, sizeOf24⟩, List.forall_mem_cons.2 ⟨⟨isAgg94, sizeOf94⟩, List.forall_mem_cons.2 ⟨⟨isAgg92, sizeOf92⟩, List.forall_mem_cons.2 ⟨⟨isAgg5, sizeOf5⟩, List.forall_mem_cons.2 ⟨⟨isAgg9, sizeOf9⟩, List.forall_mem_cons.2 ⟨⟨isAgg96, sizeOf96⟩, List.forall_mem_cons.2 ⟨⟨isAgg127, sizeOf127⟩, List.forall_mem_cons.2 ⟨⟨isAgg152, sizeOf152⟩, List.forall_mem_cons.2 ⟨⟨isAgg154, sizeOf154⟩, List.forall_mem_cons.2 ⟨⟨isAgg3, sizeOf3⟩, List.forall_mem_cons.2 ⟨⟨isAgg206, sizeOf206⟩, List.forall_mem_cons.2 ⟨⟨isAgg202, sizeOf202⟩, List.forall_mem_cons.2 ⟨⟨isAgg123, sizeOf123⟩, List.forall_mem_cons.2 ⟨⟨isAgg136, sizeOf136⟩, List.forall_mem_cons.2 ⟨⟨isAgg197, sizeOf197⟩, List.forall_mem_cons.2 ⟨⟨isAgg200, sizeOf200⟩, List.forall_mem_cons.2 ⟨⟨isAgg168, sizeOf168⟩, List.forall_mem_cons.2 ⟨⟨isAgg139, sizeOf139⟩, List.forall_mem_cons.2 ⟨⟨isAgg211, sizeOf211⟩, List.forall_mem_cons.2 ⟨⟨isAgg4, sizeOf4⟩, List.forall_mem_cons.2 ⟨⟨isAgg203, sizeOf203⟩, List.forall_mem_cons.2 ⟨⟨isAgg214, sizeOf214⟩, List.forall_mem_cons.2 ⟨⟨isAgg204, sizeOf204⟩, List.forall_mem_cons.2 ⟨⟨isAgg160, sizeOf160⟩, List.forall_mem_cons.2 ⟨⟨isAgg218, sizeOf218⟩, List.forall_mem_cons.2 ⟨⟨isAgg31, sizeOf31⟩, List.forall_mem_cons.2 ⟨⟨isAgg132, sizeOf132⟩, List.forall_mem_cons.2 ⟨⟨isAgg29, sizeOf29⟩, List.forall_mem_cons.2 ⟨⟨isAgg130, sizeOf130⟩, List.forall_mem_cons.2 ⟨⟨isAgg128, sizeOf128⟩, List.forall_mem_cons.2 ⟨⟨isAgg263, sizeOf263⟩, List.forall_mem_cons.2 ⟨⟨isAgg298, sizeOf298⟩, List.forall_mem_cons.2 ⟨⟨isAgg260, sizeOf260⟩, List.forall_mem_cons.2 ⟨⟨isAgg223, sizeOf223⟩, List.forall_mem_cons.2 ⟨⟨isAgg134, sizeOf134⟩, List.forall_mem_cons.2 ⟨⟨isAgg23, sizeOf23⟩, List.forall_mem_cons.2 ⟨⟨isAgg179, sizeOf179⟩, List.forall_mem_cons.2 ⟨⟨isAgg171, sizeOf171⟩, List.forall_mem_cons.2 ⟨⟨isAgg238, sizeOf238⟩, List.forall_mem_cons.2 ⟨⟨isAgg239, sizeOf239⟩, List.forall_mem_cons.2 ⟨⟨isAgg240, sizeOf240⟩, List.forall_mem_cons.2 ⟨⟨isAgg241, sizeOf241⟩, List.forall_mem_cons.2 ⟨⟨isAgg169, sizeOf169⟩, List.forall_mem_cons.2 ⟨⟨isAgg35, sizeOf35⟩, List.forall_mem_cons.2 ⟨⟨isAgg181, sizeOf181⟩, List.forall_mem_cons.2 ⟨⟨isAgg175, sizeOf175⟩, List.forall_mem_cons.2 ⟨⟨isAgg182, sizeOf182⟩, List.forall_mem_cons.2 ⟨⟨isAgg184, sizeOf184⟩, List.forall_mem_cons.2 ⟨⟨isAgg249, sizeOf249⟩, List.forall_mem_cons.2 ⟨⟨isAgg246, sizeOf246⟩, List.forall_mem_cons.2 ⟨⟨isAgg50, sizeOf50⟩, List.forall_mem_cons.2 ⟨⟨isAgg59, sizeOf59⟩, List.forall_mem_nil _⟩⟩⟩⟩⟩⟩⟩⟩⟩⟩⟩⟩⟩⟩⟩⟩⟩⟩⟩⟩⟩⟩⟩⟩⟩⟩⟩⟩⟩⟩⟩⟩⟩⟩⟩⟩⟩⟩⟩⟩⟩⟩⟩⟩⟩⟩⟩⟩⟩⟩⟩⟩⟩⟩⟩⟩⟩,
   List.forall_mem_cons.2 ⟨⟨⟨_, zeroValue50, (ZR.agg (ZL.cons ZR.int (ZL.cons ZR.int (ZL.cons ZR.int (ZL.cons ZR.int (ZL.cons ZR.int (ZL.cons ZR.int (ZL.cons ZR.int (ZL.cons ZR.int ZL.nil)))))))))⟩, pl_50⟩, List.forall_mem_cons.2 ⟨⟨⟨_, zeroValue81, (ZR.agg (ZL.cons ZR.int (ZL.cons ZR.int (ZL.cons ZR.int (ZL.cons ZR.int (ZL.cons ZR.int (ZL.cons ZR.int (ZL.cons ZR.int (ZL.cons ZR.int (ZL.cons ZR.int (ZL.cons ZR.int (ZL.cons ZR.int (ZL.cons ZR.int (ZL.cons ZR.int (ZL.cons ZR.int (ZL.cons ZR.int (ZL.cons ZR.int (ZL.cons ZR.int (ZL.cons ZR.int (ZL.cons ZR.int (ZL.cons ZR.int (ZL.cons ZR.int (ZL.cons ZR.int (ZL.cons ZR.int (ZL.cons ZR.int (ZL.cons ZR.int (ZL.cons ZR.int (ZL.cons ZR.int (ZL.cons ZR.int (ZL.cons ZR.int (ZL.cons ZR.int (ZL.cons ZR.int (ZL.cons ZR.int (ZL.cons ZR.int (ZL.cons ZR.int (ZL.cons ZR.int (ZL.cons ZR.int (ZL.cons ZR.int (ZL.cons ZR.int (ZL.cons ZR.int (ZL.cons ZR.int (ZL.cons ZR.int (ZL.cons ZR.int (ZL.cons ZR.int (ZL.cons ZR.int (ZL.cons ZR.int (ZL.cons ZR.int (ZL.cons ZR.int (ZL.cons ZR.int (ZL.cons ZR.int (ZL.cons ZR.int (ZL.cons ZR.int (ZL.cons ZR.int (ZL.cons ZR.int (ZL.cons ZR.int (ZL.cons ZR.bool (ZL.cons ZR.int (ZL.cons ZR.int ZL.nil))))))))))))))))))))))))))))))))))))))))))))))))))))))))))⟩, pl_81⟩, List.forall_mem_cons.2 ⟨⟨⟨_, zeroValue123, (ZR.agg (ZL.cons ZR.int (ZL.cons ZR.int (ZL.cons ZR.int (ZL.cons ZR.int ZL.nil)))))⟩, QkD⟩, List.forall_mem_cons.2 ⟨⟨⟨_, zeroValue125, (ZR.agg (ZL.cons ZR.int (ZL.cons ZR.int (ZL.cons ZR.rsl ZL.nil))))⟩, QkC⟩, List.forall_mem_cons.2 ⟨⟨⟨_, zeroValue132, (ZR.agg (ZL.cons ZR.int (ZL.cons ZR.int (ZL.cons ZR.int (ZL.cons ZR.int (ZL.cons ZR.int (ZL.cons ZR.rsl (ZL.cons ZR.rsl (ZL.cons ZR.rsl ZL.nil)))))))))⟩, QkA⟩, List.forall_mem_cons.2 ⟨⟨⟨_, zeroValue136, (ZR.agg (ZL.cons ZR.int (ZL.cons ZR.int ZL.nil)))⟩, Qfq⟩, List.forall_mem_cons.2 ⟨⟨⟨_, zeroValue218, (ZR.agg (ZL.cons ZR.int (ZL.cons ZR.int (ZL.cons ZR.int ZL.nil))))⟩, Qkw⟩, List.forall_mem_cons.2 ⟨⟨⟨_, zeroValue263, (ZR.agg (ZL.cons ZR.int (ZL.cons ZR.int (ZL.cons ZR.int (ZL.cons ZR.int (ZL.cons ZR.int (ZL.cons ZR.rsl (ZL.cons ZR.rsl (ZL.cons ZR.rsl ZL.nil)))))))))⟩, Qku⟩, List.forall_mem_cons.2 ⟨⟨⟨_, zeroValue298, (ZR.agg (ZL.cons ZR.int (ZL.cons ZR.int (ZL.cons ZR.int (ZL.cons ZR.rsl ZL.nil)))))⟩, Qkt⟩, List.forall_mem_cons.2 ⟨⟨⟨_, zeroValue256, (ZR.agg (ZL.cons ZR.int (ZL.cons ZR.int ZL.nil)))⟩, Qkv⟩, List.forall_mem_cons.2 ⟨⟨⟨_, zeroValue181, (ZR.agg (ZL.cons ZR.nilp (ZL.cons ZR.int (ZL.cons ZR.int ZL.nil))))⟩, Qkx⟩, List.forall_mem_cons.2 ⟨⟨⟨_, zeroValue179, (ZR.agg (ZL.cons ZR.int (ZL.cons ZR.int ZL.nil)))⟩, Qky⟩, List.forall_mem_cons.2 ⟨⟨⟨_, zeroValue171, (ZR.agg (ZL.cons ZR.nils (ZL.cons ZR.nilf ZL.nil)))⟩, Qkz⟩, List.forall_mem_cons.2 ⟨⟨⟨_, zeroValue184, (ZR.agg (ZL.cons ZR.int (ZL.cons ZR.int (ZL.cons ZR.str (ZL.cons ZR.rsl ZL.nil)))))⟩, Qhf⟩, List.forall_mem_cons.2 ⟨⟨⟨_, zeroValue59, (ZR.agg (ZL.cons ZR.int (ZL.cons ZR.int ZL.nil)))⟩, Qj5⟩, List.forall_mem_nil _⟩⟩⟩⟩⟩⟩⟩⟩⟩⟩⟩⟩⟩⟩⟩⟩
def tyX : TyX := { ty := tyT, al := [(81, (.agg [.int .i64 0, .int .i64 0, .int .i64 0, .int .i64 0, .int .i64 0, .int .i64 0, .int .i64 0, .int .i64 0, .int .i64 0, .int .i64 0, .int .i64 0, .int .i64 0, .int .i64 0, .int .i64 0, .int .i64 0, .int .i64 0, .int .i64 0, .int .i64 0, .int .i64 0, .int .i64 0, .int .i64 0, .int .i64 0, .int .i64 0, .int .i64 0, .int .i64 0, .int .i64 0, .int .i64 0, .int .i64 0, .int .i64 0, .int .i64 0, .int .i64 0, .int .i64 0, .int .i64 0, .int .i64 0, .int .i64 0, .int .i64 0, .int .i64 0, .int .i64 0, .int .i64 0, .int .i64 0, .int .i64 0, .int .i64 0, .int .i64 0, .int .i64 0, .int .i64 0, .int .i64 0, .int .i64 0, .int .i64 0, .int .i64 0, .int .i64 0, .int .i64 0, .int .i64 0, .int .i64 0, .int .i64 0, .bool false, .int .i64 0, .int .i64 0])), (33, (.agg [.str [], .rsl 2 (List.map Mat.c []), .rsl 4 (List.map Leg.c []), .rsl 5 (List.map Distance.c []), .rsl 2 (List.map Wave.c []), .rsl 4 (List.map Offence.c []), .rsl 3 (List.map Category.c []), .rsl 4 (List.map Prize.c []), .rsl 8 (List.map Step.enc []), .int .i64 0, .int .i64 0, .int .i64 0, .int .i64 0, .int .i64 0, .int .i64 0, .int .i64 0])), (125, (.agg [.int .i64 0, .int .i64 0, .rsl 3 (List.map Part.enc [])])), (94, (.agg [.str [], .rsl 3 (List.map Part.enc []), .int .i64 0, .rsl 3 (List.map Cutoff.c []), .int .i64 0])), (96, (.agg [.str [], .int .i64 0])), (127, (.agg [.str [], .int .i64 0])), (152, (.agg [.str [], .int .i64 0, .int .i64 0, .bool false])), (154, (.agg [.str [], .int .i64 0, .int .i64 0])), (136, (.agg [.int .i64 0, .int .i64 0])), (123, (.agg [.int .i64 0, .int .i64 0, .int .i64 0, .int .i64 0])), (218, (.agg [.int .i64 0, .int .i64 0, .int .i64 0])), (160, (.agg [.int .i64 0, .int .i64 0, .int .i64 0, .int .i64 0])), (3, (.int .i64 0)), (197, .nilf), (200, .nilf), (31, (.agg [.int .i64 0, .int .i64 0, .int .i64 0, .int .i64 0, .int .i64 0])), (132, (.agg [.int .i64 0, .int .i64 0, .int .i64 0, .int .i64 0, .int .i64 0, .rsl 4 (List.map Cond.enc []), .rsl 8 (List.map Step.enc []), .rsl 8 (List.map Step.enc [])])), (130, (.agg [.int .i64 0, .int .i64 0, .int .i64 0, .rsl 4 (List.map Cond.enc [])])), (263, (.agg [.int .i64 0, .int .i64 0, .int .i64 0, .int .i64 0, .int .i64 0, .rsl 4 (List.map Cond.enc []), .rsl 8 (List.map Step.enc []), .rsl 8 (List.map Step.enc [])])), (298, (.agg [.int .i64 0, .int .i64 0, .int .i64 0, .rsl 4 (List.map Cond.enc [])])), (223, .nilm), (134, .nilm), (171, (.agg [.nils, .nilf])), (238, .nilp), (239, .nilp), (240, .nilp), (241, .nilp), (181, (.agg [.nilp, .int .i64 0, .int .i64 0])), (184, (.agg [.int .i64 0, .int .i64 0, .str [], .rsl 4 (List.map Value.enc [])])), (249, .nilp), (50, (.agg [.int .i64 0, .int .i64 0, .int .i64 0, .int .i64 0, .int .i64 0, .int .i64 0, .int .i64 0, .int .i64 0])), (59, (.agg [.int .i64 0, .int .i64 0]))], sl := [118, 221, 48, 169, 34, 38, 42] }
theorem Qj2 : TyXOK prog tyX :=
  ⟨tyOK,
   List.forall_mem_cons.2 ⟨⟨⟨_, zeroValue81, (zrC Z)⟩, Z, Z⟩, List.forall_mem_cons.2 ⟨⟨⟨_, zeroValue33, (zrC Z)⟩, Z, Z⟩, List.forall_mem_cons.2 ⟨⟨⟨_, zeroValue125, (zrC Z)⟩, Z, Z⟩, List.forall_mem_cons.2 ⟨⟨⟨_, zeroValue94, (zrC Z)⟩, Z, Z⟩, List.forall_mem_cons.2 ⟨⟨⟨_, zeroValue96, (zrC Z)⟩, Z, Z⟩, List.forall_mem_cons.2 ⟨⟨⟨_, zeroValue127, (zrC Z)⟩, Z, Z⟩, List.forall_mem_cons.2 ⟨⟨⟨_, zeroValue152, (zrC Z)⟩, Z, Z⟩, List.forall_mem_cons.2 ⟨⟨⟨_, zeroValue154, (zrC Z)⟩, Z, Z⟩, List.forall_mem_cons.2 ⟨⟨⟨_, zeroValue136, (zrC Z)⟩, Z, Z⟩, List.forall_mem_cons.2 ⟨⟨⟨_, zeroValue123, (zrC Z)⟩, Z, Z⟩, List.forall_mem_cons.2 ⟨⟨⟨_, zeroValue218, (zrC Z)⟩, Z, Z⟩, List.forall_mem_cons.2 ⟨⟨⟨_, zeroValue160, (zrC Z)⟩, Z, Z⟩, List.forall_mem_cons.2 ⟨⟨⟨_, zeroValue3, ZR.int⟩, Z, Z⟩, List.forall_mem_cons.2 ⟨⟨⟨_, zeroValue197, ZR.nilf⟩, Z, Z⟩, List.forall_mem_cons.2 ⟨⟨⟨_, zeroValue200, ZR.nilf⟩, Z, Z⟩, List.forall_mem_cons.2 ⟨⟨⟨_, zeroValue31, (zrC Z)⟩, Z, Z⟩, List.forall_mem_cons.2 ⟨⟨⟨_, zeroValue132, (zrC Z)⟩, Z, Z⟩, List.forall_mem_cons.2 ⟨⟨⟨_, zeroValue130, (zrC Z)⟩, Z, Z⟩, List.forall_mem_cons.2 ⟨⟨⟨_, zeroValue263, (zrC Z)⟩, Z, Z⟩, List.forall_mem_cons.2 ⟨⟨⟨_, zeroValue298, (zrC Z)⟩, Z, Z⟩, List.forall_mem_cons.2 ⟨⟨⟨_, zeroValue223, ZR.nilm⟩, Z, Z⟩, List.forall_mem_cons.2 ⟨⟨⟨_, zeroValue134, ZR.nilm⟩, Z, Z⟩, List.forall_mem_cons.2 ⟨⟨⟨_, zeroValue171, (zrC Z)⟩, Z, Z⟩, List.forall_mem_cons.2 ⟨⟨⟨_, zeroValue238, ZR.nilp⟩, Z, Z⟩, List.forall_mem_cons.2 ⟨⟨⟨_, zeroValue239, ZR.nilp⟩, Z, Z⟩, List.forall_mem_cons.2 ⟨⟨⟨_, zeroValue240, ZR.nilp⟩, Z, Z⟩, List.forall_mem_cons.2 ⟨⟨⟨_, zeroValue241, ZR.nilp⟩, Z, Z⟩, List.forall_mem_cons.2 ⟨⟨⟨_, zeroValue181, (zrC Z)⟩, Z, Z⟩, List.forall_mem_cons.2 ⟨⟨⟨_, zeroValue184, (zrC Z)⟩, Z, Z⟩, List.forall_mem_cons.2 ⟨⟨⟨_, zeroValue249, ZR.nilp⟩, Z, Z⟩, List.forall_mem_cons.2 ⟨⟨⟨_, zeroValue50, (zrC Z)⟩, Z, Z⟩, List.forall_mem_cons.2 ⟨⟨⟨_, zeroValue59, (zrC Z)⟩, Z, Z⟩, List.forall_mem_nil _⟩⟩⟩⟩⟩⟩⟩⟩⟩⟩⟩⟩⟩⟩⟩⟩⟩⟩⟩⟩⟩⟩⟩⟩⟩⟩⟩⟩⟩⟩⟩⟩,
   List.forall_mem_cons.2 ⟨⟨_, runUnderlying118⟩, List.forall_mem_cons.2 ⟨⟨_, runUnderlying221⟩, List.forall_mem_cons.2 ⟨⟨_, runUnderlying48⟩, List.forall_mem_cons.2 ⟨⟨_, runUnderlying169⟩, List.forall_mem_cons.2 ⟨⟨_, runUnderlying34⟩, List.forall_mem_cons.2 ⟨⟨_, runUnderlying38⟩, List.forall_mem_cons.2 ⟨⟨_, runUnderlying42⟩, List.forall_mem_nil _⟩⟩⟩⟩⟩⟩⟩⟩
theorem U {h0 N : Nat} {all : Array Oper} {l l' : List Oper} {env env' : Env} {H H' : Heap} {Q : Post} (n : Nat) (h : runX tyX h0 N all n l env H = some (l', env', H')) (k : WO prog h0 N all l' env' H' Q) : WO prog h0 N all l env H Q := AU Qj2 n h k
theorem UD {h0 N id : Nat} {l : List Oper} {env : Env} {H : Heap} {Q : Post} {ds : List Nat} {xs : List A} (m : Nat) (hr : runD tyX H m l env = some (ds, xs)) (hq : (List.range m).map (stepJ tyX N l ds xs env H) = xs.map some) (hk : WO prog h0 N l.toArray (l.drop m) (fullE ds xs env) H Q) (hc : Go.Sw.draw0 l m N ds = true := by exact rfl) (hxs : Nat.beq xs.length m = true := by exact rfl) (h0B : Nat.ble h0 H.length = true := by exact rfl) : TC prog h0 N (.region id l.toArray true) env H Q := Qit Qj2 m draws hr hq hc hxs h0B hk
theorem v0 {N : Nat} {l : List Oper} {ds : List Nat} {xs : List A} {env0 : Env} {hB hE i : Nat} {H : Heap} {x : A} (hx : xs[i]? = some x) (h : stepI tyT N l ds xs env0 H i = some x) : OblS prog N l ds xs env0 hB hE i H H := vQ tyOK hx h
theorem ov {N : Nat} {l : List Oper} {ds : List Nat} {xs : List A} {env0 : Env} {i c : Nat} {H : Heap} {x : A} (k : Oq prog N l ds xs env0 H (i + 1) c) (hx : xs[i]? = some x := by exact rfl) (h : stepI tyT N l ds xs env0 H i = some x := by exact rfl) : Oq prog N l ds xs env0 H i (c + 1) := .c (vQ tyOK hx h) k
def lay_contains_207_ren : Go.Shelf.Ren := ⟨fun | 144 => 207 | 143 => 238 | 219 => 249 | 217 => 252 | 225 => 253 | 224 => 254 | 267 => 255 | 266 => 256 | 314 => 257 | n => n, fun | 9 => 9 | 4 => 4 | 3 => 3 | 5 => 5 | 46 => 230 | 146 => 329 | 51 => 279 | n => n, fun | 1 => 11 | n => n⟩
theorem Qb8 : Go.Proofs.Lays.n144 prog lay_contains_207_ren := {
  mixed := by kernel_rfl
  f143 := func238.trans (congrArg some (by kernel_rfl))
  f144 := func207.trans (congrArg some (by kernel_rfl))
  f217 := func252.trans (congrArg some (by kernel_rfl))
  f219 := func249.trans (congrArg some (by kernel_rfl))
  f224 := func254.trans (congrArg some (by kernel_rfl))
  f225 := func253.trans (congrArg some (by kernel_rfl))
  f266 := func256.trans (congrArg some (by kernel_rfl))
  f267 := func255.trans (congrArg some (by kernel_rfl))
  f314 := func257.trans (congrArg some (by kernel_rfl))
  t3 := underlying3
  a3 := isAgg3
  z3 := sizeOf3
  v3 := zeroValue3
  t4 := underlying4
  a4 := isAgg4
  z4 := sizeOf4
  v4 := zeroValue4
  t5 := underlying5
  a5 := isAgg5
  z5 := sizeOf5
  v5 := zeroValue5
  t9 := underlying9
  a9 := isAgg9
  z9 := sizeOf9
  v9 := zeroValue9
  t46 := underlying230
  a46 := isAgg230
  z46 := sizeOf230
  v46 := zeroValue230
  t51 := underlying279
  a51 := isAgg279
  z51 := sizeOf279
  v51 := zeroValue279
  t146 := underlying329
  a146 := isAgg329
  z146 := sizeOf329
  v146 := zeroValue329
  g1 := by kernel_rfl }
def lay_sortI_128_ren : Go.Shelf.Ren := ⟨fun | 189 => 128 | 125 => 138 | 257 => 175 | 128 => 197 | 129 => 198 | 294 => 220 | 295 => 221 | 296 => 222 | 297 => 223 | 298 => 224 | 299 => 225 | 216 => 226 | 300 => 227 | 301 => 228 | 328 => 241 | 329 => 233 | 330 => 234 | 331 => 242 | 332 => 243 | 215 => 67 | 343 => 251 | n => n, fun | 28 => 48 | 3 => 3 | 46 => 230 | 0 => 0 | 51 => 279 | 53 => 281 | 4 => 4 | 183 => 273 | 182 => 272 | 131 => 53 | 5 => 5 | 9 => 9 | 218 => 309 | 222 => 175 | 228 => 323 | 229 => 161 | n => n, fun | n => n⟩
theorem Qdn : Go.Proofs.Lays.n189 prog lay_sortI_128_ren := {
  mixed := by kernel_rfl
  f125 := func138.trans (congrArg some (by kernel_rfl))
  f128 := func197.trans (congrArg some (by kernel_rfl))
  f129 := func198.trans (congrArg some (by kernel_rfl))
  f189 := func128.trans (congrArg some (by kernel_rfl))
  f215 := func67.trans (congrArg some (by kernel_rfl))
  f216 := func226.trans (congrArg some (by kernel_rfl))
  f257 := func175.trans (congrArg some (by kernel_rfl))
  f294 := func220.trans (congrArg some (by kernel_rfl))
  f295 := func221.trans (congrArg some (by kernel_rfl))
  f296 := func222.trans (congrArg some (by kernel_rfl))
  f297 := func223.trans (congrArg some (by kernel_rfl))
  f298 := func224.trans (congrArg some (by kernel_rfl))
  f299 := func225.trans (congrArg some (by kernel_rfl))
  f300 := func227.trans (congrArg some (by kernel_rfl))
  f301 := func228.trans (congrArg some (by kernel_rfl))
  f328 := func241.trans (congrArg some (by kernel_rfl))
  f329 := func233.trans (congrArg some (by kernel_rfl))
  f330 := func234.trans (congrArg some (by kernel_rfl))
  f331 := func242.trans (congrArg some (by kernel_rfl))
  f332 := func243.trans (congrArg some (by kernel_rfl))
  f343 := func251.trans (congrArg some (by kernel_rfl))
  t0 := underlying0
  a0 := isAgg0
  z0 := sizeOf0
  v0 := zeroValue0
  t3 := underlying3
  a3 := isAgg3
  z3 := sizeOf3
  v3 := zeroValue3
  t4 := underlying4
  a4 := isAgg4
  z4 := sizeOf4
  v4 := zeroValue4
  t5 := underlying5
  a5 := isAgg5
  z5 := sizeOf5
  v5 := zeroValue5
  t9 := underlying9
  a9 := isAgg9
  z9 := sizeOf9
  v9 := zeroValue9
  t28 := underlying48
  a28 := isAgg48
  z28 := sizeOf48
  v28 := zeroValue48
  t46 := underlying230
  a46 := isAgg230
  z46 := sizeOf230
  v46 := zeroValue230
  t51 := underlying279
  a51 := isAgg279
  z51 := sizeOf279
  v51 := zeroValue279
  t53 := underlying281
  a53 := isAgg281
  z53 := sizeOf281
  v53 := zeroValue281
  t131 := underlying53
  a131 := isAgg53
  z131 := sizeOf53
  v131 := zeroValue53
  t182 := underlying272
  a182 := isAgg272
  z182 := sizeOf272
  v182 := zeroValue272
  t183 := underlying273
  a183 := isAgg273
  z183 := sizeOf273
  v183 := zeroValue273
  t218 := underlying309
  a218 := isAgg309
  z218 := sizeOf309
  v218 := zeroValue309
  t222 := underlying175
  a222 := isAgg175
  z222 := sizeOf175
  v222 := zeroValue175
  t228 := underlying323
  a228 := isAgg323
  z228 := sizeOf323
  v228 := zeroValue323
  t229 := underlying161
  a229 := isAgg161
  z229 := sizeOf161
  v229 := zeroValue161 }
def lay_sortK_65_ren : Go.Shelf.Ren := ⟨fun | 6 => 65 | 15 => 138 | 14 => 137 | 28 => 197 | 29 => 198 | 20 => 189 | 21 => 190 | 22 => 191 | 23 => 192 | 24 => 193 | 25 => 194 | 26 => 195 | 27 => 196 | 46 => 232 | 47 => 233 | 48 => 234 | 49 => 235 | 50 => 236 | 57 => 248 | n => n, fun | 22 => 42 | 24 => 59 | 25 => 110 | 3 => 3 | 39 => 230 | 0 => 0 | 53 => 279 | 55 => 281 | 4 => 4 | 46 => 273 | 45 => 272 | 50 => 53 | 5 => 5 | 9 => 9 | 66 => 309 | 70 => 175 | 76 => 323 | 77 => 161 | n => n, fun | n => n⟩
theorem Qd2 : Go.Proofs.SlLaysF0.n6 prog lay_sortK_65_ren := {
  mixed := by kernel_rfl
  f6 := ⟨f65.name, by decide, func65.trans (congrArg some (by kernel_rfl))⟩
  f14 := ⟨f137.name, by decide, func137.trans (congrArg some (by kernel_rfl))⟩
  f15 := func138.trans (congrArg some (by kernel_rfl))
  f20 := ⟨f189.name, by decide, func189.trans (congrArg some (by kernel_rfl))⟩
  f21 := ⟨f190.name, by decide, func190.trans (congrArg some (by kernel_rfl))⟩
  f22 := ⟨f191.name, by decide, func191.trans (congrArg some (by kernel_rfl))⟩
  f23 := ⟨f192.name, by decide, func192.trans (congrArg some (by kernel_rfl))⟩
  f24 := ⟨f193.name, by decide, func193.trans (congrArg some (by kernel_rfl))⟩
  f25 := ⟨f194.name, by decide, func194.trans (congrArg some (by kernel_rfl))⟩
  f26 := ⟨f195.name, by decide, func195.trans (congrArg some (by kernel_rfl))⟩
  f27 := ⟨f196.name, by decide, func196.trans (congrArg some (by kernel_rfl))⟩
  f28 := func197.trans (congrArg some (by kernel_rfl))
  f29 := func198.trans (congrArg some (by kernel_rfl))
  f46 := ⟨f232.name, by decide, func232.trans (congrArg some (by kernel_rfl))⟩
  f47 := func233.trans (congrArg some (by kernel_rfl))
  f48 := func234.trans (congrArg some (by kernel_rfl))
  f49 := ⟨f235.name, by decide, func235.trans (congrArg some (by kernel_rfl))⟩
  f50 := ⟨f236.name, by decide, func236.trans (congrArg some (by kernel_rfl))⟩
  f57 := ⟨f248.name, by decide, func248.trans (congrArg some (by kernel_rfl))⟩
  t0 := underlying0
  a0 := isAgg0
  z0 := sizeOf0
  v0 := zeroValue0
  t3 := underlying3
  a3 := isAgg3
  z3 := sizeOf3
  v3 := zeroValue3
  t4 := underlying4
  a4 := isAgg4
  z4 := sizeOf4
  v4 := zeroValue4
  t5 := underlying5
  a5 := isAgg5
  z5 := sizeOf5
  v5 := zeroValue5
  t9 := underlying9
  a9 := isAgg9
  z9 := sizeOf9
  v9 := zeroValue9
  t22 := underlying42
  a22 := isAgg42
  z22 := sizeOf42
  v22 := zeroValue42
  t25 := underlying110
  a25 := isAgg110
  z25 := sizeOf110
  v25 := zeroValue110
  t39 := underlying230
  a39 := isAgg230
  z39 := sizeOf230
  v39 := zeroValue230
  t45 := underlying272
  a45 := isAgg272
  z45 := sizeOf272
  v45 := zeroValue272
  t46 := underlying273
  a46 := isAgg273
  z46 := sizeOf273
  v46 := zeroValue273
  t50 := underlying53
  a50 := isAgg53
  z50 := sizeOf53
  v50 := zeroValue53
  t53 := underlying279
  a53 := isAgg279
  z53 := sizeOf279
  v53 := zeroValue279
  t55 := underlying281
  a55 := isAgg281
  z55 := sizeOf281
  v55 := zeroValue281
  t66 := underlying309
  a66 := isAgg309
  z66 := sizeOf309
  v66 := zeroValue309
  t70 := underlying175
  a70 := isAgg175
  z70 := sizeOf175
  v70 := zeroValue175
  t76 := underlying323
  a76 := isAgg323
  z76 := sizeOf323
  v76 := zeroValue323
  t77 := underlying161
  a77 := isAgg161
  z77 := sizeOf161
  v77 := zeroValue161 }
end Go.Sw
