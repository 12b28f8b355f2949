/- How the arguments of PrizesCandidatesSpec are read. -/
import Derived.Test.YtkfjchmhgpkcbaaGreatW31CaA
set_option linter.unusedVariables false
set_option linter.unusedSimpArgs false
set_option maxRecDepth 100000
set_option maxHeartbeats 4000000
namespace Go.Sw
open Go.Proofs Tryz
def Segment.wf(x:Segment):Prop:=(Qat .i64) x.Mat/\(Qat .i64) x.Epoch/\(Qat .i64) x.Anchor/\True
theorem Qkp(n:Nat):RB prog n 198 Segment Segment.c Segment.wf:=(Qbv (RB.struct underlying198 (by kernel_rfl) (RF.cons (k:=1) rfl (by kernel_rfl) (RB.int underlying3) (RF.cons (k:=1) rfl (by kernel_rfl) (RB.int underlying3) (RF.cons (k:=1) rfl (by kernel_rfl) (RB.int underlying3) RF.nil)))) (fun p=>⟨p.1,p.2.1,p.2.2.1⟩) (fun _=>rfl) (fun _ h=>h)).down
def Clocks.wf(x:Clocks):Prop:=(fun l=>l.length<=1048576/\ ∀x∈l,Segment.wf x) x.Segments/\(fun l=>l.length<=1048576/\ ∀x∈l,(fun l=>l.length<=1048576/\ ∀x∈l,(Qat .i64) x) x) x.Far/\True
theorem rd_25(n:Nat):RB prog n 25 Clocks Clocks.c Clocks.wf:=(Qbv (RB.struct underlying25 (by kernel_rfl) (RF.cons (k:=1) rfl (by kernel_rfl) (RB.slice (k:=3) underlying22 (by kernel_rfl) rfl (fun _=>rfl) (Qkp n)).down (RF.cons (k:=1) rfl (by kernel_rfl) (RB.slice (k:=1) underlying23 (by kernel_rfl) rfl (fun _=>rfl) (RB.slice (k:=1) underlying32 (by kernel_rfl) rfl (fun _=>rfl) (RB.int underlying3)).down).down RF.nil))) (fun p=>⟨p.1,p.2.1⟩) (fun _=>rfl) (fun _ h=>h)).down
def Pair.wf(x:Pair):Prop:=(Qat .i64) x.A/\(Qat .i64) x.B/\True
theorem Qkq(n:Nat):RB prog n 149 Pair Pair.c Pair.wf:=(Qbv (RB.struct underlying149 (by kernel_rfl) (RF.cons (k:=1) rfl (by kernel_rfl) (RB.int underlying3) (RF.cons (k:=1) rfl (by kernel_rfl) (RB.int underlying3) RF.nil))) (fun p=>⟨p.1,p.2.1⟩) (fun _=>rfl) (fun _ h=>h)).down
def Outcome.wf(x:Outcome):Prop:=(fun _=>True) x.Out/\(Qat .i64) x.Seg/\(Qat .i64) x.Lo/\(Qat .i64) x.Hi/\True
theorem Qkr(n:Nat):RB prog n 146 Outcome Outcome.c Outcome.wf:=(Qbv (RB.struct underlying146 (by kernel_rfl) (RF.cons (k:=1) rfl (by kernel_rfl) (RB.bool underlying4) (RF.cons (k:=1) rfl (by kernel_rfl) (RB.int underlying3) (RF.cons (k:=1) rfl (by kernel_rfl) (RB.int underlying3) (RF.cons (k:=1) rfl (by kernel_rfl) (RB.int underlying3) RF.nil))))) (fun p=>⟨p.1,p.2.1,p.2.2.1,p.2.2.2.1⟩) (fun _=>rfl) (fun _ h=>h)).down
def Runner.wf(x:Runner):Prop:=(Qat .i64) x.Bib/\(fun l=>l.length<=1048576/\ ∀x∈l,(Qat .i64) x) x.Keys/\(fun l=>l.length<=1048576/\ ∀x∈l,(fun l=>l.length<=1048576/\ ∀x∈l,Outcome.wf x) x) x.Worlds/\True
theorem rd_68(n:Nat):RB prog n 68 Runner Runner.c Runner.wf:=(Qbv (RB.struct underlying68 (by kernel_rfl) (RF.cons (k:=1) rfl (by kernel_rfl) (RB.int underlying3) (RF.cons (k:=1) rfl (by kernel_rfl) (RB.slice (k:=1) underlying32 (by kernel_rfl) rfl (fun _=>rfl) (RB.int underlying3)).down (RF.cons (k:=1) rfl (by kernel_rfl) (RB.slice (k:=1) underlying66 (by kernel_rfl) rfl (fun _=>rfl) (RB.slice (k:=4) underlying88 (by kernel_rfl) rfl (fun _=>rfl) (Qkr n)).down).down RF.nil)))) (fun p=>⟨p.1,p.2.1,p.2.2.1⟩) (fun _=>rfl) (fun _ h=>h)).down
def Field.wf(x:Field):Prop:=Clocks.wf x.Clocks/\(fun l=>l.length<=1048576/\ ∀x∈l,Pair.wf x) x.Pairs/\(fun l=>l.length<=1048576/\ ∀x∈l,Runner.wf x) x.Runners/\True
theorem rd_29(n:Nat):RB prog n 29 Field Field.c Field.wf:=(Qbv (RB.struct underlying29 (by kernel_rfl) (RF.cons (k:=2) rfl (by kernel_rfl) (rd_25 n) (RF.cons (k:=1) rfl (by kernel_rfl) (RB.slice (k:=2) underlying26 (by kernel_rfl) rfl (fun _=>rfl) (Qkq n)).down (RF.cons (k:=1) rfl (by kernel_rfl) (RB.slice (k:=3) underlying27 (by kernel_rfl) rfl (fun _=>rfl) (rd_68 n)).down RF.nil)))) (fun p=>⟨p.1,p.2.1,p.2.2.1⟩) (fun _=>rfl) (fun _ h=>h)).down
end Go.Sw
