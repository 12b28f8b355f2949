/- How the arguments of CategoriesTables are read. -/
import Derived.Test.YtjikdlekkmifhaaGreatW29TaA
set_option linter.unusedVariables false
set_option linter.unusedSimpArgs false
set_option maxRecDepth 100000
namespace Go.Sw
open Go.Proofs Tryz
def Mat.wf (x : Mat) : Prop := (fun s => s.length ≤ 1048576) x.Name ∧ (IsInt .i64) x.Kind ∧ True
theorem rd_107 (n : Nat) : RB prog n 107 Mat Mat.c Mat.wf := (RB.conv (RB.struct underlying107 (by kernel_rfl) (RF.cons (k := 1) rfl (by kernel_rfl) (RB.string underlying9) (RF.cons (k := 1) rfl (by kernel_rfl) (RB.int underlying3) RF.nil))) (fun p => ⟨p.1, p.2.1⟩) (fun _ => rfl) (fun _ h => h)).down
def Leg.wf (x : Leg) : Prop := (IsInt .i64) x.From ∧ (IsInt .i64) x.To ∧ (IsInt .i64) x.Min ∧ (IsInt .i64) x.Max ∧ True
theorem rd_90 (n : Nat) : RB prog n 90 Leg Leg.c Leg.wf := (RB.conv (RB.struct underlying90 (by kernel_rfl) (RF.cons (k := 1) rfl (by kernel_rfl) (RB.int underlying3) (RF.cons (k := 1) rfl (by kernel_rfl) (RB.int underlying3) (RF.cons (k := 1) rfl (by kernel_rfl) (RB.int underlying3) (RF.cons (k := 1) rfl (by kernel_rfl) (RB.int underlying3) RF.nil))))) (fun p => ⟨p.1, p.2.1, p.2.2.1, p.2.2.2.1⟩) (fun _ => rfl) (fun _ h => h)).down
mutual
def Part.wf : Part → Prop
  | ⟨x0, x1, x2⟩ => ((IsInt .i64) x0) ∧ ((IsInt .i64) x1) ∧ (x2.length ≤ 1048576 ∧ Part.wfs x2) ∧ True
def Part.wfs : List Part → Prop
  | [] => True
  | x :: l => Part.wf x ∧ Part.wfs l
end
theorem Part.wfs_iff (l : List Part) : Part.wfs l ↔ ∀ x ∈ l, Part.wf x := by
  induction l with
  | nil => simp [Part.wfs]
  | cons x l ih => simp [Part.wfs, ih]
theorem rd_85 : ∀ n, RB prog n 85 Part Part.enc Part.wf := RB.rec' (fun n ih => RB.conv (RB.struct underlying85 (by kernel_rfl) (RF.cons (k := 1) rfl (by kernel_rfl) (RB.int underlying3) (RF.cons (k := 1) rfl (by kernel_rfl) (RB.int underlying3) (RF.cons (k := 1) rfl (by kernel_rfl) (RB.slice (k := 3) underlying59 (by kernel_rfl) rfl (fun x => by rw [Part.enc_eq]; rfl) ih).down RF.nil)))) (fun p => ⟨p.1, p.2.1, p.2.2.1⟩) (fun p => by simp [Part.enc, Part.encs_eq, encI, encB, encS, encL]) (fun p h => by simpa [Part.wf, Part.wfs_iff] using h))
def Cutoff.wf (x : Cutoff) : Prop := (IsInt .i64) x.Mat ∧ (IsInt .i64) x.Lap ∧ (IsInt .i64) x.Limit ∧ True
theorem rd_122 (n : Nat) : RB prog n 122 Cutoff Cutoff.c Cutoff.wf := (RB.conv (RB.struct underlying122 (by kernel_rfl) (RF.cons (k := 1) rfl (by kernel_rfl) (RB.int underlying3) (RF.cons (k := 1) rfl (by kernel_rfl) (RB.int underlying3) (RF.cons (k := 1) rfl (by kernel_rfl) (RB.int underlying3) RF.nil)))) (fun p => ⟨p.1, p.2.1, p.2.2.1⟩) (fun _ => rfl) (fun _ h => h)).down
def Distance.wf (x : Distance) : Prop := (fun s => s.length ≤ 1048576) x.Name ∧ (fun l => l.length ≤ 1048576 ∧ ∀ x ∈ l, Part.wf x) x.Route ∧ (IsInt .i64) x.Timing ∧ (fun l => l.length ≤ 1048576 ∧ ∀ x ∈ l, Cutoff.wf x) x.Cutoffs ∧ (IsInt .i64) x.Extra ∧ True
theorem rd_62 (n : Nat) : RB prog n 62 Distance Distance.c Distance.wf := (RB.conv (RB.struct underlying62 (by kernel_rfl) (RF.cons (k := 1) rfl (by kernel_rfl) (RB.string underlying9) (RF.cons (k := 1) rfl (by kernel_rfl) (RB.slice (k := 3) underlying59 (by kernel_rfl) rfl (fun x => by rw [Part.enc_eq]; rfl) (rd_85 n)).down (RF.cons (k := 1) rfl (by kernel_rfl) (RB.int underlying3) (RF.cons (k := 1) rfl (by kernel_rfl) (RB.slice (k := 3) underlying60 (by kernel_rfl) rfl (fun _ => rfl) (rd_122 n)).down (RF.cons (k := 1) rfl (by kernel_rfl) (RB.int underlying3) RF.nil)))))) (fun p => ⟨p.1, p.2.1, p.2.2.1, p.2.2.2.1, p.2.2.2.2.1⟩) (fun _ => rfl) (fun _ h => h)).down
def Wave.wf (x : Wave) : Prop := (fun s => s.length ≤ 1048576) x.Name ∧ (IsInt .i64) x.Gun ∧ True
theorem rd_109 (n : Nat) : RB prog n 109 Wave Wave.c Wave.wf := (RB.conv (RB.struct underlying109 (by kernel_rfl) (RF.cons (k := 1) rfl (by kernel_rfl) (RB.string underlying9) (RF.cons (k := 1) rfl (by kernel_rfl) (RB.int underlying3) RF.nil))) (fun p => ⟨p.1, p.2.1⟩) (fun _ => rfl) (fun _ h => h)).down
def Offence.wf (x : Offence) : Prop := (fun s => s.length ≤ 1048576) x.Name ∧ (IsInt .i64) x.Time ∧ (IsInt .i64) x.Laps ∧ (fun _ => True) x.Out ∧ True
theorem rd_111 (n : Nat) : RB prog n 111 Offence Offence.c Offence.wf := (RB.conv (RB.struct underlying111 (by kernel_rfl) (RF.cons (k := 1) rfl (by kernel_rfl) (RB.string underlying9) (RF.cons (k := 1) rfl (by kernel_rfl) (RB.int underlying3) (RF.cons (k := 1) rfl (by kernel_rfl) (RB.int underlying3) (RF.cons (k := 1) rfl (by kernel_rfl) (RB.bool underlying4) RF.nil))))) (fun p => ⟨p.1, p.2.1, p.2.2.1, p.2.2.2.1⟩) (fun _ => rfl) (fun _ h => h)).down
def Category.wf (x : Category) : Prop := (fun s => s.length ≤ 1048576) x.Name ∧ (IsInt .i64) x.From ∧ (IsInt .i64) x.To ∧ True
theorem rd_52 (n : Nat) : RB prog n 52 Category Category.c Category.wf := (RB.conv (RB.struct underlying52 (by kernel_rfl) (RF.cons (k := 1) rfl (by kernel_rfl) (RB.string underlying9) (RF.cons (k := 1) rfl (by kernel_rfl) (RB.int underlying3) (RF.cons (k := 1) rfl (by kernel_rfl) (RB.int underlying3) RF.nil)))) (fun p => ⟨p.1, p.2.1, p.2.2.1⟩) (fun _ => rfl) (fun _ h => h)).down
def Prize.wf (x : Prize) : Prop := (IsInt .i64) x.Distance ∧ (IsInt .i64) x.Category ∧ (IsInt .i64) x.Rank ∧ (IsInt .i64) x.Amount ∧ True
theorem rd_117 (n : Nat) : RB prog n 117 Prize Prize.c Prize.wf := (RB.conv (RB.struct underlying117 (by kernel_rfl) (RF.cons (k := 1) rfl (by kernel_rfl) (RB.int underlying3) (RF.cons (k := 1) rfl (by kernel_rfl) (RB.int underlying3) (RF.cons (k := 1) rfl (by kernel_rfl) (RB.int underlying3) (RF.cons (k := 1) rfl (by kernel_rfl) (RB.int underlying3) RF.nil))))) (fun p => ⟨p.1, p.2.1, p.2.2.1, p.2.2.2.1⟩) (fun _ => rfl) (fun _ h => h)).down
mutual
def Cond.wf : Cond → Prop
  | ⟨x0, x1, x2, x3⟩ => ((IsInt .i64) x0) ∧ ((IsInt .i64) x1) ∧ ((IsInt .i64) x2) ∧ (x3.length ≤ 1048576 ∧ Cond.wfs x3) ∧ True
def Cond.wfs : List Cond → Prop
  | [] => True
  | x :: l => Cond.wf x ∧ Cond.wfs l
end
theorem Cond.wfs_iff (l : List Cond) : Cond.wfs l ↔ ∀ x ∈ l, Cond.wf x := by
  induction l with
  | nil => simp [Cond.wfs]
  | cons x l ih => simp [Cond.wfs, ih]
theorem rd_125 : ∀ n, RB prog n 125 Cond Cond.enc Cond.wf := RB.rec' (fun n ih => RB.conv (RB.struct underlying125 (by kernel_rfl) (RF.cons (k := 1) rfl (by kernel_rfl) (RB.int underlying3) (RF.cons (k := 1) rfl (by kernel_rfl) (RB.int underlying3) (RF.cons (k := 1) rfl (by kernel_rfl) (RB.int underlying3) (RF.cons (k := 1) rfl (by kernel_rfl) (RB.slice (k := 4) underlying123 (by kernel_rfl) rfl (fun x => by rw [Cond.enc_eq]; rfl) ih).down RF.nil))))) (fun p => ⟨p.1, p.2.1, p.2.2.1, p.2.2.2.1⟩) (fun p => by simp [Cond.enc, Cond.encs_eq, encI, encB, encS, encL]) (fun p h => by simpa [Cond.wf, Cond.wfs_iff] using h))
mutual
def Step.wf : Step → Prop
  | ⟨x0, x1, x2, x3, x4⟩ => ((IsInt .i64) x0) ∧ ((IsInt .i64) x1) ∧ (Cond.wf x2) ∧ (x3.length ≤ 1048576 ∧ Step.wfs x3) ∧ (x4.length ≤ 1048576 ∧ Step.wfs x4) ∧ True
def Step.wfs : List Step → Prop
  | [] => True
  | x :: l => Step.wf x ∧ Step.wfs l
end
theorem Step.wfs_iff (l : List Step) : Step.wfs l ↔ ∀ x ∈ l, Step.wf x := by
  induction l with
  | nil => simp [Step.wfs]
  | cons x l ih => simp [Step.wfs, ih]
theorem rd_127 : ∀ n, RB prog n 127 Step Step.enc Step.wf := RB.rec' (fun n ih => RB.conv (RB.struct underlying127 (by kernel_rfl) (RF.cons (k := 1) rfl (by kernel_rfl) (RB.int underlying3) (RF.cons (k := 1) rfl (by kernel_rfl) (RB.int underlying3) (RF.cons (k := 4) rfl (by kernel_rfl) (rd_125 n) (RF.cons (k := 1) rfl (by kernel_rfl) (RB.slice (k := 8) underlying29 (by kernel_rfl) rfl (fun x => by rw [Step.enc_eq]; rfl) ih).down (RF.cons (k := 1) rfl (by kernel_rfl) (RB.slice (k := 8) underlying29 (by kernel_rfl) rfl (fun x => by rw [Step.enc_eq]; rfl) ih).down RF.nil)))))) (fun p => ⟨p.1, p.2.1, p.2.2.1, p.2.2.2.1, p.2.2.2.2.1⟩) (fun p => by simp [Step.enc, Step.encs_eq, encI, encB, encS, encL, Cond.enc_eq, Cond.c]) (fun p h => by simpa [Step.wf, Step.wfs_iff] using h))
def Faults.wf (x : Faults) : Prop := (IsInt .i64) x.Misses ∧ (IsInt .i64) x.Strays ∧ (IsInt .i64) x.Window ∧ (IsInt .i64) x.Residual ∧ (IsInt .i64) x.Drift ∧ True
theorem rd_31 (n : Nat) : RB prog n 31 Faults Faults.c Faults.wf := (RB.conv (RB.struct underlying31 (by kernel_rfl) (RF.cons (k := 1) rfl (by kernel_rfl) (RB.int underlying3) (RF.cons (k := 1) rfl (by kernel_rfl) (RB.int underlying3) (RF.cons (k := 1) rfl (by kernel_rfl) (RB.int underlying3) (RF.cons (k := 1) rfl (by kernel_rfl) (RB.int underlying3) (RF.cons (k := 1) rfl (by kernel_rfl) (RB.int underlying3) RF.nil)))))) (fun p => ⟨p.1, p.2.1, p.2.2.1, p.2.2.2.1, p.2.2.2.2.1⟩) (fun _ => rfl) (fun _ h => h)).down
def Course.wf (x : Course) : Prop := (fun s => s.length ≤ 1048576) x.Name ∧ (fun l => l.length ≤ 1048576 ∧ ∀ x ∈ l, Mat.wf x) x.Mats ∧ (fun l => l.length ≤ 1048576 ∧ ∀ x ∈ l, Leg.wf x) x.Legs ∧ (fun l => l.length ≤ 1048576 ∧ ∀ x ∈ l, Distance.wf x) x.Distances ∧ (fun l => l.length ≤ 1048576 ∧ ∀ x ∈ l, Wave.wf x) x.Waves ∧ (fun l => l.length ≤ 1048576 ∧ ∀ x ∈ l, Offence.wf x) x.Offences ∧ (fun l => l.length ≤ 1048576 ∧ ∀ x ∈ l, Category.wf x) x.Categories ∧ (fun l => l.length ≤ 1048576 ∧ ∀ x ∈ l, Prize.wf x) x.Prizes ∧ (fun l => l.length ≤ 1048576 ∧ ∀ x ∈ l, Step.wf x) x.Ties ∧ Faults.wf x.Faults ∧ (IsInt .i64) x.Fee ∧ (IsInt .i64) x.Deadline ∧ True
theorem rd_33 (n : Nat) : RB prog n 33 Course Course.c Course.wf := (RB.conv (RB.struct underlying33 (by kernel_rfl) (RF.cons (k := 1) rfl (by kernel_rfl) (RB.string underlying9) (RF.cons (k := 1) rfl (by kernel_rfl) (RB.slice (k := 2) underlying22 (by kernel_rfl) rfl (fun _ => rfl) (rd_107 n)).down (RF.cons (k := 1) rfl (by kernel_rfl) (RB.slice (k := 4) underlying23 (by kernel_rfl) rfl (fun _ => rfl) (rd_90 n)).down (RF.cons (k := 1) rfl (by kernel_rfl) (RB.slice (k := 5) underlying24 (by kernel_rfl) rfl (fun _ => rfl) (rd_62 n)).down (RF.cons (k := 1) rfl (by kernel_rfl) (RB.slice (k := 2) underlying25 (by kernel_rfl) rfl (fun _ => rfl) (rd_109 n)).down (RF.cons (k := 1) rfl (by kernel_rfl) (RB.slice (k := 4) underlying26 (by kernel_rfl) rfl (fun _ => rfl) (rd_111 n)).down (RF.cons (k := 1) rfl (by kernel_rfl) (RB.slice (k := 3) underlying27 (by kernel_rfl) rfl (fun _ => rfl) (rd_52 n)).down (RF.cons (k := 1) rfl (by kernel_rfl) (RB.slice (k := 4) underlying28 (by kernel_rfl) rfl (fun _ => rfl) (rd_117 n)).down (RF.cons (k := 1) rfl (by kernel_rfl) (RB.slice (k := 8) underlying29 (by kernel_rfl) rfl (fun x => by rw [Step.enc_eq]; rfl) (rd_127 n)).down (RF.cons (k := 5) rfl (by kernel_rfl) (rd_31 n) (RF.cons (k := 1) rfl (by kernel_rfl) (RB.int underlying3) (RF.cons (k := 1) rfl (by kernel_rfl) (RB.int underlying3) RF.nil))))))))))))) (fun p => ⟨p.1, p.2.1, p.2.2.1, p.2.2.2.1, p.2.2.2.2.1, p.2.2.2.2.2.1, p.2.2.2.2.2.2.1, p.2.2.2.2.2.2.2.1, p.2.2.2.2.2.2.2.2.1, p.2.2.2.2.2.2.2.2.2.1, p.2.2.2.2.2.2.2.2.2.2.1, p.2.2.2.2.2.2.2.2.2.2.2.1⟩) (fun _ => rfl) (fun _ h => h)).down
def Starter.wf (x : Starter) : Prop := (IsInt .i64) x.Bib ∧ (IsInt .i64) x.Distance ∧ (IsInt .i64) x.Wave ∧ (IsInt .i64) x.Slot ∧ (IsInt .i64) x.Age ∧ (IsInt .i64) x.Chip ∧ (IsInt .i64) x.Team ∧ (IsInt .i64) x.Lot ∧ True
theorem rd_42 (n : Nat) : RB prog n 42 Starter Starter.c Starter.wf := (RB.conv (RB.struct underlying42 (by kernel_rfl) (RF.cons (k := 1) rfl (by kernel_rfl) (RB.int underlying3) (RF.cons (k := 1) rfl (by kernel_rfl) (RB.int underlying3) (RF.cons (k := 1) rfl (by kernel_rfl) (RB.int underlying3) (RF.cons (k := 1) rfl (by kernel_rfl) (RB.int underlying3) (RF.cons (k := 1) rfl (by kernel_rfl) (RB.int underlying3) (RF.cons (k := 1) rfl (by kernel_rfl) (RB.int underlying3) (RF.cons (k := 1) rfl (by kernel_rfl) (RB.int underlying3) (RF.cons (k := 1) rfl (by kernel_rfl) (RB.int underlying3) RF.nil))))))))) (fun p => ⟨p.1, p.2.1, p.2.2.1, p.2.2.2.1, p.2.2.2.2.1, p.2.2.2.2.2.1, p.2.2.2.2.2.2.1, p.2.2.2.2.2.2.2.1⟩) (fun _ => rfl) (fun _ h => h)).down
end Go.Sw
