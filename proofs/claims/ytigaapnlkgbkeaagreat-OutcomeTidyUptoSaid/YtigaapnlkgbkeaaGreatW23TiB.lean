/- How the arguments of OutcomeTidy are read. -/
import Derived.Test.YtigaapnlkgbkeaaGreatW23TiA
set_option linter.unusedVariables false
set_option linter.unusedSimpArgs false
set_option maxRecDepth 100000
set_option maxHeartbeats 4000000
namespace Go.Sw
open Go.Proofs Tryz
def Outcome.wf(x:Outcome):Prop:=(λ_=>True) x.Out/\(Y0 .i64) x.Seg/\(Y0 .i64) x.Lo/\(Y0 .i64) x.Hi/\True
theorem rd_27(n:Nat):RB prog n 27 Outcome Outcome.c Outcome.wf:=(Qjp (RB.struct underlying27 (by kernel_rfl) (RF.c1 (RB.bool underlying4) (RF.c1 rb_3 (RF.c1 rb_3 (RF.c1 rb_3 RF.nil))))) (λp=>⟨p.1,p.2.1,p.2.2.1,p.2.2.2.1⟩) Zf (λ_ h=>h)).down
end Go.Sw
