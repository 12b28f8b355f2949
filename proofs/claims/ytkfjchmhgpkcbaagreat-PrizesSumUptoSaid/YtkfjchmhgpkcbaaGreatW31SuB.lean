/- How the arguments of PrizesSum are read. -/
import Derived.Test.YtkfjchmhgpkcbaaGreatW31SuA
set_option linter.unusedVariables false
set_option linter.unusedSimpArgs false
set_option maxRecDepth 100000
set_option maxHeartbeats 4000000
namespace Go.Sw
open Go.Proofs Tryz
def Mat.wf(x:Mat):Prop:=(λs=>s.length<=1048576) x.Name/\(QE .i64) x.Kind/\True
theorem Qos(n:Nat):RB prog n 101 Mat Mat.c Mat.wf:=(Q7 (RB.struct underlying101 (by kernel_rfl) (Em (k:=1) rfl (by kernel_rfl) (RB.string underlying9) (Em (k:=1) rfl (by kernel_rfl) (RB.int underlying3) RF.nil))) (λp=>⟨p.1,p.2.1⟩) Zf (λ_ h=>h)).down
def Leg.wf(x:Leg):Prop:=(QE .i64) x.From/\(QE .i64) x.To/\(QE .i64) x.Min/\(QE .i64) x.Max/\True
theorem Qor(n:Nat):RB prog n 135 Leg Leg.c Leg.wf:=(Q7 (RB.struct underlying135 (by kernel_rfl) (Em (k:=1) rfl (by kernel_rfl) (RB.int underlying3) (Em (k:=1) rfl (by kernel_rfl) (RB.int underlying3) (Em (k:=1) rfl (by kernel_rfl) (RB.int underlying3) (Em (k:=1) rfl (by kernel_rfl) (RB.int underlying3) RF.nil))))) (λp=>⟨p.1,p.2.1,p.2.2.1,p.2.2.2.1⟩) Zf (λ_ h=>h)).down
mutual
def Part.wf:Part->Prop
  |⟨x0,x1,x2⟩=>((QE .i64) x0)/\((QE .i64) x1)/\(x2.length<=1048576/\Part.wfs x2)/\True
def Part.wfs:List Part->Prop
  |[]=>True
  |x::l=>Part.wf x/\Part.wfs l
end
theorem QcK(l:List Part):Part.wfs l↔ ∀x∈l,Part.wf x:=by
  induction l with
  |nil=>simp[Part.wfs]
  |cons x l ih=>simp[Part.wfs,ih]
theorem Qoq:∀n,RB prog n 137 Part Part.enc Part.wf:=QdM (λn ih=>Q7 (RB.struct underlying137 (by kernel_rfl) (Em (k:=1) rfl (by kernel_rfl) (RB.int underlying3) (Em (k:=1) rfl (by kernel_rfl) (RB.int underlying3) (Em (k:=1) rfl (by kernel_rfl) (RB.slice (k:=3) underlying96 (by kernel_rfl) rfl (λx=>by rw[Jj];rfl) ih).down RF.nil)))) (λp=>⟨p.1,p.2.1,p.2.2.1⟩) (λp=>by simp[Part.enc,QcL,Qd,encB,encS,YC]) (λp h=>by simpa[Part.wf,QcK]using h))
def Cutoff.wf(x:Cutoff):Prop:=(QE .i64) x.Mat/\(QE .i64) x.Lap/\(QE .i64) x.Limit/\True
theorem Qoh(n:Nat):RB prog n 249 Cutoff Cutoff.c Cutoff.wf:=(Q7 (RB.struct underlying249 (by kernel_rfl) (Em (k:=1) rfl (by kernel_rfl) (RB.int underlying3) (Em (k:=1) rfl (by kernel_rfl) (RB.int underlying3) (Em (k:=1) rfl (by kernel_rfl) (RB.int underlying3) RF.nil)))) (λp=>⟨p.1,p.2.1,p.2.2.1⟩) Zf (λ_ h=>h)).down
def Distance.wf(x:Distance):Prop:=(λs=>s.length<=1048576) x.Name/\(λl=>l.length<=1048576/\ ∀x∈l,Part.wf x) x.Route/\(QE .i64) x.Timing/\(λl=>l.length<=1048576/\ ∀x∈l,Cutoff.wf x) x.Cutoffs/\(QE .i64) x.Extra/\True
theorem rd_99(n:Nat):RB prog n 99 Distance Distance.c Distance.wf:=(Q7 (RB.struct underlying99 (by kernel_rfl) (Em (k:=1) rfl (by kernel_rfl) (RB.string underlying9) (Em (k:=1) rfl (by kernel_rfl) (RB.slice (k:=3) underlying96 (by kernel_rfl) rfl (λx=>by rw[Jj];rfl) (Qoq n)).down (Em (k:=1) rfl (by kernel_rfl) (RB.int underlying3) (Em (k:=1) rfl (by kernel_rfl) (RB.slice (k:=3) underlying97 (by kernel_rfl) rfl Zf (Qoh n)).down (Em (k:=1) rfl (by kernel_rfl) (RB.int underlying3) RF.nil)))))) (λp=>⟨p.1,p.2.1,p.2.2.1,p.2.2.2.1,p.2.2.2.2.1⟩) Zf (λ_ h=>h)).down
def Wave.wf(x:Wave):Prop:=(λs=>s.length<=1048576) x.Name/\(QE .i64) x.Gun/\True
theorem Qop(n:Nat):RB prog n 139 Wave Wave.c Wave.wf:=(Q7 (RB.struct underlying139 (by kernel_rfl) (Em (k:=1) rfl (by kernel_rfl) (RB.string underlying9) (Em (k:=1) rfl (by kernel_rfl) (RB.int underlying3) RF.nil))) (λp=>⟨p.1,p.2.1⟩) Zf (λ_ h=>h)).down
def Offence.wf(x:Offence):Prop:=(λs=>s.length<=1048576) x.Name/\(QE .i64) x.Time/\(QE .i64) x.Laps/\(λ_=>True) x.Out/\True
theorem Qoj(n:Nat):RB prog n 237 Offence Offence.c Offence.wf:=(Q7 (RB.struct underlying237 (by kernel_rfl) (Em (k:=1) rfl (by kernel_rfl) (RB.string underlying9) (Em (k:=1) rfl (by kernel_rfl) (RB.int underlying3) (Em (k:=1) rfl (by kernel_rfl) (RB.int underlying3) (Em (k:=1) rfl (by kernel_rfl) (RB.bool underlying4) RF.nil))))) (λp=>⟨p.1,p.2.1,p.2.2.1,p.2.2.2.1⟩) Zf (λ_ h=>h)).down
def Category.wf(x:Category):Prop:=(λs=>s.length<=1048576) x.Name/\(QE .i64) x.From/\(QE .i64) x.To/\True
theorem Qoi(n:Nat):RB prog n 239 Category Category.c Category.wf:=(Q7 (RB.struct underlying239 (by kernel_rfl) (Em (k:=1) rfl (by kernel_rfl) (RB.string underlying9) (Em (k:=1) rfl (by kernel_rfl) (RB.int underlying3) (Em (k:=1) rfl (by kernel_rfl) (RB.int underlying3) RF.nil)))) (λp=>⟨p.1,p.2.1,p.2.2.1⟩) Zf (λ_ h=>h)).down
def Prize.wf(x:Prize):Prop:=(QE .i64) x.Distance/\(QE .i64) x.Category/\(QE .i64) x.Rank/\(QE .i64) x.Amount/\True
theorem rd_74(n:Nat):RB prog n 74 Prize Prize.c Prize.wf:=(Q7 (RB.struct underlying74 (by kernel_rfl) (Em (k:=1) rfl (by kernel_rfl) (RB.int underlying3) (Em (k:=1) rfl (by kernel_rfl) (RB.int underlying3) (Em (k:=1) rfl (by kernel_rfl) (RB.int underlying3) (Em (k:=1) rfl (by kernel_rfl) (RB.int underlying3) RF.nil))))) (λp=>⟨p.1,p.2.1,p.2.2.1,p.2.2.2.1⟩) Zf (λ_ h=>h)).down
mutual
def Cond.wf:Cond->Prop
  |⟨x0,x1,x2,x3⟩=>((QE .i64) x0)/\((QE .i64) x1)/\((QE .i64) x2)/\(x3.length<=1048576/\Cond.wfs x3)/\True
def Cond.wfs:List Cond->Prop
  |[]=>True
  |x::l=>Cond.wf x/\Cond.wfs l
end
theorem QcQ(l:List Cond):Cond.wfs l↔ ∀x∈l,Cond.wf x:=by
  induction l with
  |nil=>simp[Cond.wfs]
  |cons x l ih=>simp[Cond.wfs,ih]
theorem Qoo:∀n,RB prog n 142 Cond Cond.enc Cond.wf:=QdM (λn ih=>Q7 (RB.struct underlying142 (by kernel_rfl) (Em (k:=1) rfl (by kernel_rfl) (RB.int underlying3) (Em (k:=1) rfl (by kernel_rfl) (RB.int underlying3) (Em (k:=1) rfl (by kernel_rfl) (RB.int underlying3) (Em (k:=1) rfl (by kernel_rfl) (RB.slice (k:=4) underlying140 (by kernel_rfl) rfl (λx=>by rw[Qao];rfl) ih).down RF.nil))))) (λp=>⟨p.1,p.2.1,p.2.2.1,p.2.2.2.1⟩) (λp=>by simp[Cond.enc,QcR,Qd,encB,encS,YC]) (λp h=>by simpa[Cond.wf,QcQ]using h))
mutual
def Step.wf:Step->Prop
  |⟨x0,x1,x2,x3,x4⟩=>((QE .i64) x0)/\((QE .i64) x1)/\(Cond.wf x2)/\(x3.length<=1048576/\Step.wfs x3)/\(x4.length<=1048576/\Step.wfs x4)/\True
def Step.wfs:List Step->Prop
  |[]=>True
  |x::l=>Step.wf x/\Step.wfs l
end
theorem QcD(l:List Step):Step.wfs l↔ ∀x∈l,Step.wf x:=by
  induction l with
  |nil=>simp[Step.wfs]
  |cons x l ih=>simp[Step.wfs,ih]
theorem Qon:∀n,RB prog n 144 Step Step.enc Step.wf:=QdM (λn ih=>Q7 (RB.struct underlying144 (by kernel_rfl) (Em (k:=1) rfl (by kernel_rfl) (RB.int underlying3) (Em (k:=1) rfl (by kernel_rfl) (RB.int underlying3) (Em (k:=4) rfl (by kernel_rfl) (Qoo n) (Em (k:=1) rfl (by kernel_rfl) (RB.slice (k:=8) underlying45 (by kernel_rfl) rfl (λx=>by rw[YT];rfl) ih).down (Em (k:=1) rfl (by kernel_rfl) (RB.slice (k:=8) underlying45 (by kernel_rfl) rfl (λx=>by rw[YT];rfl) ih).down RF.nil)))))) (λp=>⟨p.1,p.2.1,p.2.2.1,p.2.2.2.1,p.2.2.2.2.1⟩) (λp=>by simp[Step.enc,QcE,Qd,encB,encS,YC,Qao,Cond.c]) (λp h=>by simpa[Step.wf,QcD]using h))
def Faults.wf(x:Faults):Prop:=(QE .i64) x.Misses/\(QE .i64) x.Strays/\(QE .i64) x.Window/\(QE .i64) x.Residual/\(QE .i64) x.Drift/\True
theorem rd_47(n:Nat):RB prog n 47 Faults Faults.c Faults.wf:=(Q7 (RB.struct underlying47 (by kernel_rfl) (Em (k:=1) rfl (by kernel_rfl) (RB.int underlying3) (Em (k:=1) rfl (by kernel_rfl) (RB.int underlying3) (Em (k:=1) rfl (by kernel_rfl) (RB.int underlying3) (Em (k:=1) rfl (by kernel_rfl) (RB.int underlying3) (Em (k:=1) rfl (by kernel_rfl) (RB.int underlying3) RF.nil)))))) (λp=>⟨p.1,p.2.1,p.2.2.1,p.2.2.2.1,p.2.2.2.2.1⟩) Zf (λ_ h=>h)).down
def Course.wf(x:Course):Prop:=(λs=>s.length<=1048576) x.Name/\(λl=>l.length<=1048576/\ ∀x∈l,Mat.wf x) x.Mats/\(λl=>l.length<=1048576/\ ∀x∈l,Leg.wf x) x.Legs/\(λl=>l.length<=1048576/\ ∀x∈l,Distance.wf x) x.Distances/\(λl=>l.length<=1048576/\ ∀x∈l,Wave.wf x) x.Waves/\(λl=>l.length<=1048576/\ ∀x∈l,Offence.wf x) x.Offences/\(λl=>l.length<=1048576/\ ∀x∈l,Category.wf x) x.Categories/\(λl=>l.length<=1048576/\ ∀x∈l,Prize.wf x) x.Prizes/\(λl=>l.length<=1048576/\ ∀x∈l,Step.wf x) x.Ties/\Faults.wf x.Faults/\(QE .i64) x.Fee/\(QE .i64) x.Deadline/\True
theorem rd_49(n:Nat):RB prog n 49 Course Course.c Course.wf:=(Q7 (RB.struct underlying49 (by kernel_rfl) (Em (k:=1) rfl (by kernel_rfl) (RB.string underlying9) (Em (k:=1) rfl (by kernel_rfl) (RB.slice (k:=2) underlying38 (by kernel_rfl) rfl Zf (Qos n)).down (Em (k:=1) rfl (by kernel_rfl) (RB.slice (k:=4) underlying39 (by kernel_rfl) rfl Zf (Qor n)).down (Em (k:=1) rfl (by kernel_rfl) (RB.slice (k:=5) underlying40 (by kernel_rfl) rfl Zf (rd_99 n)).down (Em (k:=1) rfl (by kernel_rfl) (RB.slice (k:=2) underlying41 (by kernel_rfl) rfl Zf (Qop n)).down (Em (k:=1) rfl (by kernel_rfl) (RB.slice (k:=4) underlying42 (by kernel_rfl) rfl Zf (Qoj n)).down (Em (k:=1) rfl (by kernel_rfl) (RB.slice (k:=3) underlying43 (by kernel_rfl) rfl Zf (Qoi n)).down (Em (k:=1) rfl (by kernel_rfl) (RB.slice (k:=4) underlying44 (by kernel_rfl) rfl Zf (rd_74 n)).down (Em (k:=1) rfl (by kernel_rfl) (RB.slice (k:=8) underlying45 (by kernel_rfl) rfl (λx=>by rw[YT];rfl) (Qon n)).down (Em (k:=5) rfl (by kernel_rfl) (rd_47 n) (Em (k:=1) rfl (by kernel_rfl) (RB.int underlying3) (Em (k:=1) rfl (by kernel_rfl) (RB.int underlying3) RF.nil))))))))))))) (λp=>⟨p.1,p.2.1,p.2.2.1,p.2.2.2.1,p.2.2.2.2.1,p.2.2.2.2.2.1,p.2.2.2.2.2.2.1,p.2.2.2.2.2.2.2.1,p.2.2.2.2.2.2.2.2.1,p.2.2.2.2.2.2.2.2.2.1,p.2.2.2.2.2.2.2.2.2.2.1,p.2.2.2.2.2.2.2.2.2.2.2.1⟩) Zf (λ_ h=>h)).down
def Segment.wf(x:Segment):Prop:=(QE .i64) x.Mat/\(QE .i64) x.Epoch/\(QE .i64) x.Anchor/\True
theorem Qok(n:Nat):RB prog n 198 Segment Segment.c Segment.wf:=(Q7 (RB.struct underlying198 (by kernel_rfl) (Em (k:=1) rfl (by kernel_rfl) (RB.int underlying3) (Em (k:=1) rfl (by kernel_rfl) (RB.int underlying3) (Em (k:=1) rfl (by kernel_rfl) (RB.int underlying3) RF.nil)))) (λp=>⟨p.1,p.2.1,p.2.2.1⟩) Zf (λ_ h=>h)).down
def Clocks.wf(x:Clocks):Prop:=(λl=>l.length<=1048576/\ ∀x∈l,Segment.wf x) x.Segments/\(λl=>l.length<=1048576/\ ∀x∈l,(λl=>l.length<=1048576/\ ∀x∈l,(QE .i64) x) x) x.Far/\True
theorem rd_25(n:Nat):RB prog n 25 Clocks Clocks.c Clocks.wf:=(Q7 (RB.struct underlying25 (by kernel_rfl) (Em (k:=1) rfl (by kernel_rfl) (RB.slice (k:=3) underlying22 (by kernel_rfl) rfl Zf (Qok n)).down (Em (k:=1) rfl (by kernel_rfl) (RB.slice (k:=1) underlying23 (by kernel_rfl) rfl Zf (RB.slice (k:=1) underlying32 (by kernel_rfl) rfl Zf (RB.int underlying3)).down).down RF.nil))) (λp=>⟨p.1,p.2.1⟩) Zf (λ_ h=>h)).down
def Pair.wf(x:Pair):Prop:=(QE .i64) x.A/\(QE .i64) x.B/\True
theorem Qol(n:Nat):RB prog n 149 Pair Pair.c Pair.wf:=(Q7 (RB.struct underlying149 (by kernel_rfl) (Em (k:=1) rfl (by kernel_rfl) (RB.int underlying3) (Em (k:=1) rfl (by kernel_rfl) (RB.int underlying3) RF.nil))) (λp=>⟨p.1,p.2.1⟩) Zf (λ_ h=>h)).down
def Outcome.wf(x:Outcome):Prop:=(λ_=>True) x.Out/\(QE .i64) x.Seg/\(QE .i64) x.Lo/\(QE .i64) x.Hi/\True
theorem Qom(n:Nat):RB prog n 146 Outcome Outcome.c Outcome.wf:=(Q7 (RB.struct underlying146 (by kernel_rfl) (Em (k:=1) rfl (by kernel_rfl) (RB.bool underlying4) (Em (k:=1) rfl (by kernel_rfl) (RB.int underlying3) (Em (k:=1) rfl (by kernel_rfl) (RB.int underlying3) (Em (k:=1) rfl (by kernel_rfl) (RB.int underlying3) RF.nil))))) (λp=>⟨p.1,p.2.1,p.2.2.1,p.2.2.2.1⟩) Zf (λ_ h=>h)).down
def Runner.wf(x:Runner):Prop:=(QE .i64) x.Bib/\(λl=>l.length<=1048576/\ ∀x∈l,(QE .i64) x) x.Keys/\(λl=>l.length<=1048576/\ ∀x∈l,(λl=>l.length<=1048576/\ ∀x∈l,Outcome.wf x) x) x.Worlds/\True
theorem rd_68(n:Nat):RB prog n 68 Runner Runner.c Runner.wf:=(Q7 (RB.struct underlying68 (by kernel_rfl) (Em (k:=1) rfl (by kernel_rfl) (RB.int underlying3) (Em (k:=1) rfl (by kernel_rfl) (RB.slice (k:=1) underlying32 (by kernel_rfl) rfl Zf (RB.int underlying3)).down (Em (k:=1) rfl (by kernel_rfl) (RB.slice (k:=1) underlying66 (by kernel_rfl) rfl Zf (RB.slice (k:=4) underlying88 (by kernel_rfl) rfl Zf (Qom n)).down).down RF.nil)))) (λp=>⟨p.1,p.2.1,p.2.2.1⟩) Zf (λ_ h=>h)).down
def Field.wf(x:Field):Prop:=Clocks.wf x.Clocks/\(λl=>l.length<=1048576/\ ∀x∈l,Pair.wf x) x.Pairs/\(λl=>l.length<=1048576/\ ∀x∈l,Runner.wf x) x.Runners/\True
theorem rd_29(n:Nat):RB prog n 29 Field Field.c Field.wf:=(Q7 (RB.struct underlying29 (by kernel_rfl) (Em (k:=2) rfl (by kernel_rfl) (rd_25 n) (Em (k:=1) rfl (by kernel_rfl) (RB.slice (k:=2) underlying26 (by kernel_rfl) rfl Zf (Qol n)).down (Em (k:=1) rfl (by kernel_rfl) (RB.slice (k:=3) underlying27 (by kernel_rfl) rfl Zf (rd_68 n)).down RF.nil)))) (λp=>⟨p.1,p.2.1,p.2.2.1⟩) Zf (λ_ h=>h)).down
def Choice.wf(x:Choice):Prop:=(QE .i64) x.Outcome/\(QE .i64) x.X/\True
theorem rd_87(n:Nat):RB prog n 87 Choice Choice.c Choice.wf:=(Q7 (RB.struct underlying87 (by kernel_rfl) (Em (k:=1) rfl (by kernel_rfl) (RB.int underlying3) (Em (k:=1) rfl (by kernel_rfl) (RB.int underlying3) RF.nil))) (λp=>⟨p.1,p.2.1⟩) Zf (λ_ h=>h)).down
def History.wf(x:History):Prop:=(QE .i64) x.World/\(λl=>l.length<=1048576/\ ∀x∈l,(QE .i64) x) x.Offsets/\(λl=>l.length<=1048576/\ ∀x∈l,Choice.wf x) x.Choices/\True
theorem rd_59(n:Nat):RB prog n 59 History History.c History.wf:=(Q7 (RB.struct underlying59 (by kernel_rfl) (Em (k:=1) rfl (by kernel_rfl) (RB.int underlying3) (Em (k:=1) rfl (by kernel_rfl) (RB.slice (k:=1) underlying32 (by kernel_rfl) rfl Zf (RB.int underlying3)).down (Em (k:=1) rfl (by kernel_rfl) (RB.slice (k:=2) underlying57 (by kernel_rfl) rfl Zf (rd_87 n)).down RF.nil)))) (λp=>⟨p.1,p.2.1,p.2.2.1⟩) Zf (λ_ h=>h)).down
end Go.Sw
