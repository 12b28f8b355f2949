/- How the arguments of ChipsExchange are read. -/
import Derived.Test.YtkjlhfabbbomjaaGreatDoorW18ExA
set_option linter.unusedVariables false
set_option linter.unusedSimpArgs false
set_option maxRecDepth 100000
set_option maxHeartbeats 4000000
namespace Go.Sw
open Go.Proofs Tryz
def Starter.wf (x : Starter) : Prop := (IsInt .i64) x.Bib ∧ (IsInt .i64) x.Distance ∧ (IsInt .i64) x.Wave ∧ (IsInt .i64) x.Slot ∧ (IsInt .i64) x.Age ∧ (IsInt .i64) x.Chip ∧ (IsInt .i64) x.Team ∧ (IsInt .i64) x.Lot ∧ True
theorem rd_50 (n : Nat) : RB prog n 50 Starter Starter.c Starter.wf := (RB.conv (RB.struct underlying50 (by kernel_rfl) (RF.cons (k := 1) rfl (by kernel_rfl) (RB.int underlying3) (RF.cons (k := 1) rfl (by kernel_rfl) (RB.int underlying3) (RF.cons (k := 1) rfl (by kernel_rfl) (RB.int underlying3) (RF.cons (k := 1) rfl (by kernel_rfl) (RB.int underlying3) (RF.cons (k := 1) rfl (by kernel_rfl) (RB.int underlying3) (RF.cons (k := 1) rfl (by kernel_rfl) (RB.int underlying3) (RF.cons (k := 1) rfl (by kernel_rfl) (RB.int underlying3) (RF.cons (k := 1) rfl (by kernel_rfl) (RB.int underlying3) RF.nil))))))))) (fun p => ⟨p.1, p.2.1, p.2.2.1, p.2.2.2.1, p.2.2.2.2.1, p.2.2.2.2.2.1, p.2.2.2.2.2.2.1, p.2.2.2.2.2.2.2.1⟩) (fun _ => rfl) (fun _ h => h)).down
end Go.Sw
