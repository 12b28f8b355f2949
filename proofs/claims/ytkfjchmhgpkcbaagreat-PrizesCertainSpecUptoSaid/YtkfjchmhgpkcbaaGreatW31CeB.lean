/- How the arguments of PrizesCertainSpec are read. -/
import Derived.Test.YtkfjchmhgpkcbaaGreatW31CeA
set_option linter.unusedVariables false
set_option linter.unusedSimpArgs false
set_option maxRecDepth 100000
set_option maxHeartbeats 4000000
namespace Go.Sw
open Go.Proofs Tryz
def Mat.wf(x:Mat):Prop:=(λs=>s.length<=1048576) x.Name/\(QM .i64) x.Kind/\True
theorem Qoe(n:Nat):RB prog n 101 Mat Mat.c Mat.wf:=(Yv (RB.struct underlying101 (by kernel_rfl) (RF.cons (k:=1) rfl (by kernel_rfl) (RB.string underlying9) (RF.cons (k:=1) rfl (by kernel_rfl) (RB.int underlying3) RF.nil))) (λp=>⟨p.1,p.2.1⟩) (λ_=>rfl) (λ_ h=>h)).down
def Leg.wf(x:Leg):Prop:=(QM .i64) x.From/\(QM .i64) x.To/\(QM .i64) x.Min/\(QM .i64) x.Max/\True
theorem Qod(n:Nat):RB prog n 135 Leg Leg.c Leg.wf:=(Yv (RB.struct underlying135 (by kernel_rfl) (RF.cons (k:=1) rfl (by kernel_rfl) (RB.int underlying3) (RF.cons (k:=1) rfl (by kernel_rfl) (RB.int underlying3) (RF.cons (k:=1) rfl (by kernel_rfl) (RB.int underlying3) (RF.cons (k:=1) rfl (by kernel_rfl) (RB.int underlying3) RF.nil))))) (λp=>⟨p.1,p.2.1,p.2.2.1,p.2.2.2.1⟩) (λ_=>rfl) (λ_ h=>h)).down
mutual
def Part.wf:Part->Prop
  |⟨x0,x1,x2⟩=>((QM .i64) x0)/\((QM .i64) x1)/\(x2.length<=1048576/\Part.wfs x2)/\True
def Part.wfs:List Part->Prop
  |[]=>True
  |x::l=>Part.wf x/\Part.wfs l
end
theorem QcV(l:List Part):Part.wfs l↔ ∀x∈l,Part.wf x:=by
  induction l with
  |nil=>simp[Part.wfs]
  |cons x l ih=>simp[Part.wfs,ih]
theorem Qoc:∀n,RB prog n 137 Part Part.enc Part.wf:=QdX (λn ih=>Yv (RB.struct underlying137 (by kernel_rfl) (RF.cons (k:=1) rfl (by kernel_rfl) (RB.int underlying3) (RF.cons (k:=1) rfl (by kernel_rfl) (RB.int underlying3) (RF.cons (k:=1) rfl (by kernel_rfl) (RB.slice (k:=3) underlying96 (by kernel_rfl) rfl (λx=>by rw[Q3];rfl) ih).down RF.nil)))) (λp=>⟨p.1,p.2.1,p.2.2.1⟩) (λp=>by simp[Part.enc,QcW,Qd,encB,Jo,YD]) (λp h=>by simpa[Part.wf,QcV]using h))
def Cutoff.wf(x:Cutoff):Prop:=(QM .i64) x.Mat/\(QM .i64) x.Lap/\(QM .i64) x.Limit/\True
theorem Qn3(n:Nat):RB prog n 249 Cutoff Cutoff.c Cutoff.wf:=(Yv (RB.struct underlying249 (by kernel_rfl) (RF.cons (k:=1) rfl (by kernel_rfl) (RB.int underlying3) (RF.cons (k:=1) rfl (by kernel_rfl) (RB.int underlying3) (RF.cons (k:=1) rfl (by kernel_rfl) (RB.int underlying3) RF.nil)))) (λp=>⟨p.1,p.2.1,p.2.2.1⟩) (λ_=>rfl) (λ_ h=>h)).down
def Distance.wf(x:Distance):Prop:=(λs=>s.length<=1048576) x.Name/\(λl=>l.length<=1048576/\ ∀x∈l,Part.wf x) x.Route/\(QM .i64) x.Timing/\(λl=>l.length<=1048576/\ ∀x∈l,Cutoff.wf x) x.Cutoffs/\(QM .i64) x.Extra/\True
theorem rd_99(n:Nat):RB prog n 99 Distance Distance.c Distance.wf:=(Yv (RB.struct underlying99 (by kernel_rfl) (RF.cons (k:=1) rfl (by kernel_rfl) (RB.string underlying9) (RF.cons (k:=1) rfl (by kernel_rfl) (RB.slice (k:=3) underlying96 (by kernel_rfl) rfl (λx=>by rw[Q3];rfl) (Qoc n)).down (RF.cons (k:=1) rfl (by kernel_rfl) (RB.int underlying3) (RF.cons (k:=1) rfl (by kernel_rfl) (RB.slice (k:=3) underlying97 (by kernel_rfl) rfl (λ_=>rfl) (Qn3 n)).down (RF.cons (k:=1) rfl (by kernel_rfl) (RB.int underlying3) RF.nil)))))) (λp=>⟨p.1,p.2.1,p.2.2.1,p.2.2.2.1,p.2.2.2.2.1⟩) (λ_=>rfl) (λ_ h=>h)).down
def Wave.wf(x:Wave):Prop:=(λs=>s.length<=1048576) x.Name/\(QM .i64) x.Gun/\True
theorem Qob(n:Nat):RB prog n 139 Wave Wave.c Wave.wf:=(Yv (RB.struct underlying139 (by kernel_rfl) (RF.cons (k:=1) rfl (by kernel_rfl) (RB.string underlying9) (RF.cons (k:=1) rfl (by kernel_rfl) (RB.int underlying3) RF.nil))) (λp=>⟨p.1,p.2.1⟩) (λ_=>rfl) (λ_ h=>h)).down
def Offence.wf(x:Offence):Prop:=(λs=>s.length<=1048576) x.Name/\(QM .i64) x.Time/\(QM .i64) x.Laps/\(λ_=>True) x.Out/\True
theorem Qn5(n:Nat):RB prog n 237 Offence Offence.c Offence.wf:=(Yv (RB.struct underlying237 (by kernel_rfl) (RF.cons (k:=1) rfl (by kernel_rfl) (RB.string underlying9) (RF.cons (k:=1) rfl (by kernel_rfl) (RB.int underlying3) (RF.cons (k:=1) rfl (by kernel_rfl) (RB.int underlying3) (RF.cons (k:=1) rfl (by kernel_rfl) (RB.bool underlying4) RF.nil))))) (λp=>⟨p.1,p.2.1,p.2.2.1,p.2.2.2.1⟩) (λ_=>rfl) (λ_ h=>h)).down
def Category.wf(x:Category):Prop:=(λs=>s.length<=1048576) x.Name/\(QM .i64) x.From/\(QM .i64) x.To/\True
theorem Qn4(n:Nat):RB prog n 239 Category Category.c Category.wf:=(Yv (RB.struct underlying239 (by kernel_rfl) (RF.cons (k:=1) rfl (by kernel_rfl) (RB.string underlying9) (RF.cons (k:=1) rfl (by kernel_rfl) (RB.int underlying3) (RF.cons (k:=1) rfl (by kernel_rfl) (RB.int underlying3) RF.nil)))) (λp=>⟨p.1,p.2.1,p.2.2.1⟩) (λ_=>rfl) (λ_ h=>h)).down
def Prize.wf(x:Prize):Prop:=(QM .i64) x.Distance/\(QM .i64) x.Category/\(QM .i64) x.Rank/\(QM .i64) x.Amount/\True
theorem rd_74(n:Nat):RB prog n 74 Prize Prize.c Prize.wf:=(Yv (RB.struct underlying74 (by kernel_rfl) (RF.cons (k:=1) rfl (by kernel_rfl) (RB.int underlying3) (RF.cons (k:=1) rfl (by kernel_rfl) (RB.int underlying3) (RF.cons (k:=1) rfl (by kernel_rfl) (RB.int underlying3) (RF.cons (k:=1) rfl (by kernel_rfl) (RB.int underlying3) RF.nil))))) (λp=>⟨p.1,p.2.1,p.2.2.1,p.2.2.2.1⟩) (λ_=>rfl) (λ_ h=>h)).down
mutual
def Cond.wf:Cond->Prop
  |⟨x0,x1,x2,x3⟩=>((QM .i64) x0)/\((QM .i64) x1)/\((QM .i64) x2)/\(x3.length<=1048576/\Cond.wfs x3)/\True
def Cond.wfs:List Cond->Prop
  |[]=>True
  |x::l=>Cond.wf x/\Cond.wfs l
end
theorem Qc0(l:List Cond):Cond.wfs l↔ ∀x∈l,Cond.wf x:=by
  induction l with
  |nil=>simp[Cond.wfs]
  |cons x l ih=>simp[Cond.wfs,ih]
theorem Qoa:∀n,RB prog n 142 Cond Cond.enc Cond.wf:=QdX (λn ih=>Yv (RB.struct underlying142 (by kernel_rfl) (RF.cons (k:=1) rfl (by kernel_rfl) (RB.int underlying3) (RF.cons (k:=1) rfl (by kernel_rfl) (RB.int underlying3) (RF.cons (k:=1) rfl (by kernel_rfl) (RB.int underlying3) (RF.cons (k:=1) rfl (by kernel_rfl) (RB.slice (k:=4) underlying140 (by kernel_rfl) rfl (λx=>by rw[Y6];rfl) ih).down RF.nil))))) (λp=>⟨p.1,p.2.1,p.2.2.1,p.2.2.2.1⟩) (λp=>by simp[Cond.enc,Qc1,Qd,encB,Jo,YD]) (λp h=>by simpa[Cond.wf,Qc0]using h))
mutual
def Step.wf:Step->Prop
  |⟨x0,x1,x2,x3,x4⟩=>((QM .i64) x0)/\((QM .i64) x1)/\(Cond.wf x2)/\(x3.length<=1048576/\Step.wfs x3)/\(x4.length<=1048576/\Step.wfs x4)/\True
def Step.wfs:List Step->Prop
  |[]=>True
  |x::l=>Step.wf x/\Step.wfs l
end
theorem QcO(l:List Step):Step.wfs l↔ ∀x∈l,Step.wf x:=by
  induction l with
  |nil=>simp[Step.wfs]
  |cons x l ih=>simp[Step.wfs,ih]
theorem Qn9:∀n,RB prog n 144 Step Step.enc Step.wf:=QdX (λn ih=>Yv (RB.struct underlying144 (by kernel_rfl) (RF.cons (k:=1) rfl (by kernel_rfl) (RB.int underlying3) (RF.cons (k:=1) rfl (by kernel_rfl) (RB.int underlying3) (RF.cons (k:=4) rfl (by kernel_rfl) (Qoa n) (RF.cons (k:=1) rfl (by kernel_rfl) (RB.slice (k:=8) underlying45 (by kernel_rfl) rfl (λx=>by rw[Ya];rfl) ih).down (RF.cons (k:=1) rfl (by kernel_rfl) (RB.slice (k:=8) underlying45 (by kernel_rfl) rfl (λx=>by rw[Ya];rfl) ih).down RF.nil)))))) (λp=>⟨p.1,p.2.1,p.2.2.1,p.2.2.2.1,p.2.2.2.2.1⟩) (λp=>by simp[Step.enc,QcP,Qd,encB,Jo,YD,Y6,Cond.c]) (λp h=>by simpa[Step.wf,QcO]using h))
def Faults.wf(x:Faults):Prop:=(QM .i64) x.Misses/\(QM .i64) x.Strays/\(QM .i64) x.Window/\(QM .i64) x.Residual/\(QM .i64) x.Drift/\True
theorem rd_47(n:Nat):RB prog n 47 Faults Faults.c Faults.wf:=(Yv (RB.struct underlying47 (by kernel_rfl) (RF.cons (k:=1) rfl (by kernel_rfl) (RB.int underlying3) (RF.cons (k:=1) rfl (by kernel_rfl) (RB.int underlying3) (RF.cons (k:=1) rfl (by kernel_rfl) (RB.int underlying3) (RF.cons (k:=1) rfl (by kernel_rfl) (RB.int underlying3) (RF.cons (k:=1) rfl (by kernel_rfl) (RB.int underlying3) RF.nil)))))) (λp=>⟨p.1,p.2.1,p.2.2.1,p.2.2.2.1,p.2.2.2.2.1⟩) (λ_=>rfl) (λ_ h=>h)).down
def Course.wf(x:Course):Prop:=(λs=>s.length<=1048576) x.Name/\(λl=>l.length<=1048576/\ ∀x∈l,Mat.wf x) x.Mats/\(λl=>l.length<=1048576/\ ∀x∈l,Leg.wf x) x.Legs/\(λl=>l.length<=1048576/\ ∀x∈l,Distance.wf x) x.Distances/\(λl=>l.length<=1048576/\ ∀x∈l,Wave.wf x) x.Waves/\(λl=>l.length<=1048576/\ ∀x∈l,Offence.wf x) x.Offences/\(λl=>l.length<=1048576/\ ∀x∈l,Category.wf x) x.Categories/\(λl=>l.length<=1048576/\ ∀x∈l,Prize.wf x) x.Prizes/\(λl=>l.length<=1048576/\ ∀x∈l,Step.wf x) x.Ties/\Faults.wf x.Faults/\(QM .i64) x.Fee/\(QM .i64) x.Deadline/\True
theorem rd_49(n:Nat):RB prog n 49 Course Course.c Course.wf:=(Yv (RB.struct underlying49 (by kernel_rfl) (RF.cons (k:=1) rfl (by kernel_rfl) (RB.string underlying9) (RF.cons (k:=1) rfl (by kernel_rfl) (RB.slice (k:=2) underlying38 (by kernel_rfl) rfl (λ_=>rfl) (Qoe n)).down (RF.cons (k:=1) rfl (by kernel_rfl) (RB.slice (k:=4) underlying39 (by kernel_rfl) rfl (λ_=>rfl) (Qod n)).down (RF.cons (k:=1) rfl (by kernel_rfl) (RB.slice (k:=5) underlying40 (by kernel_rfl) rfl (λ_=>rfl) (rd_99 n)).down (RF.cons (k:=1) rfl (by kernel_rfl) (RB.slice (k:=2) underlying41 (by kernel_rfl) rfl (λ_=>rfl) (Qob n)).down (RF.cons (k:=1) rfl (by kernel_rfl) (RB.slice (k:=4) underlying42 (by kernel_rfl) rfl (λ_=>rfl) (Qn5 n)).down (RF.cons (k:=1) rfl (by kernel_rfl) (RB.slice (k:=3) underlying43 (by kernel_rfl) rfl (λ_=>rfl) (Qn4 n)).down (RF.cons (k:=1) rfl (by kernel_rfl) (RB.slice (k:=4) underlying44 (by kernel_rfl) rfl (λ_=>rfl) (rd_74 n)).down (RF.cons (k:=1) rfl (by kernel_rfl) (RB.slice (k:=8) underlying45 (by kernel_rfl) rfl (λx=>by rw[Ya];rfl) (Qn9 n)).down (RF.cons (k:=5) rfl (by kernel_rfl) (rd_47 n) (RF.cons (k:=1) rfl (by kernel_rfl) (RB.int underlying3) (RF.cons (k:=1) rfl (by kernel_rfl) (RB.int underlying3) RF.nil))))))))))))) (λp=>⟨p.1,p.2.1,p.2.2.1,p.2.2.2.1,p.2.2.2.2.1,p.2.2.2.2.2.1,p.2.2.2.2.2.2.1,p.2.2.2.2.2.2.2.1,p.2.2.2.2.2.2.2.2.1,p.2.2.2.2.2.2.2.2.2.1,p.2.2.2.2.2.2.2.2.2.2.1,p.2.2.2.2.2.2.2.2.2.2.2.1⟩) (λ_=>rfl) (λ_ h=>h)).down
def Segment.wf(x:Segment):Prop:=(QM .i64) x.Mat/\(QM .i64) x.Epoch/\(QM .i64) x.Anchor/\True
theorem Qn6(n:Nat):RB prog n 198 Segment Segment.c Segment.wf:=(Yv (RB.struct underlying198 (by kernel_rfl) (RF.cons (k:=1) rfl (by kernel_rfl) (RB.int underlying3) (RF.cons (k:=1) rfl (by kernel_rfl) (RB.int underlying3) (RF.cons (k:=1) rfl (by kernel_rfl) (RB.int underlying3) RF.nil)))) (λp=>⟨p.1,p.2.1,p.2.2.1⟩) (λ_=>rfl) (λ_ h=>h)).down
def Clocks.wf(x:Clocks):Prop:=(λl=>l.length<=1048576/\ ∀x∈l,Segment.wf x) x.Segments/\(λl=>l.length<=1048576/\ ∀x∈l,(λl=>l.length<=1048576/\ ∀x∈l,(QM .i64) x) x) x.Far/\True
theorem rd_25(n:Nat):RB prog n 25 Clocks Clocks.c Clocks.wf:=(Yv (RB.struct underlying25 (by kernel_rfl) (RF.cons (k:=1) rfl (by kernel_rfl) (RB.slice (k:=3) underlying22 (by kernel_rfl) rfl (λ_=>rfl) (Qn6 n)).down (RF.cons (k:=1) rfl (by kernel_rfl) (RB.slice (k:=1) underlying23 (by kernel_rfl) rfl (λ_=>rfl) (RB.slice (k:=1) underlying32 (by kernel_rfl) rfl (λ_=>rfl) (RB.int underlying3)).down).down RF.nil))) (λp=>⟨p.1,p.2.1⟩) (λ_=>rfl) (λ_ h=>h)).down
def Pair.wf(x:Pair):Prop:=(QM .i64) x.A/\(QM .i64) x.B/\True
theorem Qn7(n:Nat):RB prog n 149 Pair Pair.c Pair.wf:=(Yv (RB.struct underlying149 (by kernel_rfl) (RF.cons (k:=1) rfl (by kernel_rfl) (RB.int underlying3) (RF.cons (k:=1) rfl (by kernel_rfl) (RB.int underlying3) RF.nil))) (λp=>⟨p.1,p.2.1⟩) (λ_=>rfl) (λ_ h=>h)).down
def Outcome.wf(x:Outcome):Prop:=(λ_=>True) x.Out/\(QM .i64) x.Seg/\(QM .i64) x.Lo/\(QM .i64) x.Hi/\True
theorem Qn8(n:Nat):RB prog n 146 Outcome Outcome.c Outcome.wf:=(Yv (RB.struct underlying146 (by kernel_rfl) (RF.cons (k:=1) rfl (by kernel_rfl) (RB.bool underlying4) (RF.cons (k:=1) rfl (by kernel_rfl) (RB.int underlying3) (RF.cons (k:=1) rfl (by kernel_rfl) (RB.int underlying3) (RF.cons (k:=1) rfl (by kernel_rfl) (RB.int underlying3) RF.nil))))) (λp=>⟨p.1,p.2.1,p.2.2.1,p.2.2.2.1⟩) (λ_=>rfl) (λ_ h=>h)).down
def Runner.wf(x:Runner):Prop:=(QM .i64) x.Bib/\(λl=>l.length<=1048576/\ ∀x∈l,(QM .i64) x) x.Keys/\(λl=>l.length<=1048576/\ ∀x∈l,(λl=>l.length<=1048576/\ ∀x∈l,Outcome.wf x) x) x.Worlds/\True
theorem rd_68(n:Nat):RB prog n 68 Runner Runner.c Runner.wf:=(Yv (RB.struct underlying68 (by kernel_rfl) (RF.cons (k:=1) rfl (by kernel_rfl) (RB.int underlying3) (RF.cons (k:=1) rfl (by kernel_rfl) (RB.slice (k:=1) underlying32 (by kernel_rfl) rfl (λ_=>rfl) (RB.int underlying3)).down (RF.cons (k:=1) rfl (by kernel_rfl) (RB.slice (k:=1) underlying66 (by kernel_rfl) rfl (λ_=>rfl) (RB.slice (k:=4) underlying88 (by kernel_rfl) rfl (λ_=>rfl) (Qn8 n)).down).down RF.nil)))) (λp=>⟨p.1,p.2.1,p.2.2.1⟩) (λ_=>rfl) (λ_ h=>h)).down
def Field.wf(x:Field):Prop:=Clocks.wf x.Clocks/\(λl=>l.length<=1048576/\ ∀x∈l,Pair.wf x) x.Pairs/\(λl=>l.length<=1048576/\ ∀x∈l,Runner.wf x) x.Runners/\True
theorem rd_29(n:Nat):RB prog n 29 Field Field.c Field.wf:=(Yv (RB.struct underlying29 (by kernel_rfl) (RF.cons (k:=2) rfl (by kernel_rfl) (rd_25 n) (RF.cons (k:=1) rfl (by kernel_rfl) (RB.slice (k:=2) underlying26 (by kernel_rfl) rfl (λ_=>rfl) (Qn7 n)).down (RF.cons (k:=1) rfl (by kernel_rfl) (RB.slice (k:=3) underlying27 (by kernel_rfl) rfl (λ_=>rfl) (rd_68 n)).down RF.nil)))) (λp=>⟨p.1,p.2.1,p.2.2.1⟩) (λ_=>rfl) (λ_ h=>h)).down
end Go.Sw
