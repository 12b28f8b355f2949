/- How the arguments of OutcomeChecks are read. -/
import Derived.Test.YtigaapnlkgbkeaaGreatW23CkA
set_option linter.unusedVariables false
set_option linter.unusedSimpArgs false
set_option maxRecDepth 100000
set_option maxHeartbeats 4000000
namespace Go.Sw
open Go.Proofs Tryz
def Segment.wf(x:Segment):Prop:=(Qbw .i64) x.Mat/\(Qbw .i64) x.Epoch/\(Qbw .i64) x.Anchor/\True
theorem rd_79(n:Nat):RB prog n 79 Segment Segment.c Segment.wf:=(Qex (RB.struct underlying79 (by kernel_rfl) (Ek QfB (Ek QfB (Ek QfB RF.nil)))) (λp=>⟨p.1,p.2.1,p.2.2.1⟩) Zf (λ_ h=>h)).down
def Clocks.wf(x:Clocks):Prop:=(λl=>l.length<=1048576/\ ∀x∈l,Segment.wf x) x.Segments/\(λl=>l.length<=1048576/\ ∀x∈l,(λl=>l.length<=1048576/\ ∀x∈l,(Qbw .i64) x) x) x.Far/\True
theorem rd_25(n:Nat):RB prog n 25 Clocks Clocks.c Clocks.wf:=(Qex (RB.struct underlying25 (by kernel_rfl) (Ek (RB.slice (k:=3) underlying22 (by kernel_rfl) rfl Zf (rd_79 n)).down (Ek (RB.slice (k:=1) underlying23 (by kernel_rfl) rfl Zf (RB.slice (k:=1) underlying77 (by kernel_rfl) rfl Zf QfB).down).down RF.nil))) (λp=>⟨p.1,p.2.1⟩) Zf (λ_ h=>h)).down
def Outcome.wf(x:Outcome):Prop:=(λ_=>True) x.Out/\(Qbw .i64) x.Seg/\(Qbw .i64) x.Lo/\(Qbw .i64) x.Hi/\True
theorem rd_27(n:Nat):RB prog n 27 Outcome Outcome.c Outcome.wf:=(Qex (RB.struct underlying27 (by kernel_rfl) (Ek (RB.bool underlying4) (Ek QfB (Ek QfB (Ek QfB RF.nil))))) (λp=>⟨p.1,p.2.1,p.2.2.1,p.2.2.2.1⟩) Zf (λ_ h=>h)).down
end Go.Sw
