/- How the arguments of PenaltiesUntilSpec are read. -/
import Derived.Test.YtckiejaapddafaaGreatDoorW22UnA
set_option linter.unusedVariables false
set_option linter.unusedSimpArgs false
set_option maxRecDepth 100000
set_option maxHeartbeats 4000000
namespace Go.Sw
open Go.Proofs Tryz
def Penalty.wf(x:Penalty):Prop:=(Qc1 .i64) x.Position/\(Qc1 .i64) x.Time/\(Qc1 .i64) x.Laps/\(λ_=>True) x.Out/\True
theorem rd_50(n:Nat):RB prog n 50 Penalty Penalty.c Penalty.wf:=(Qj8 (RB.struct underlying50 (by kernel_rfl) (RF.cons (k:=1) rfl (by kernel_rfl) (RB.int underlying3) (RF.cons (k:=1) rfl (by kernel_rfl) (RB.int underlying3) (RF.cons (k:=1) rfl (by kernel_rfl) (RB.int underlying3) (RF.cons (k:=1) rfl (by kernel_rfl) (RB.bool underlying4) RF.nil))))) (λp=>⟨p.1,p.2.1,p.2.2.1,p.2.2.2.1⟩) Zf (λ_ h=>h)).down
end Go.Sw
