/- How the arguments of PenaltiesSet are read. -/
import Derived.Test.YtckiejaapddafaaGreatDoorW22StA
set_option linter.unusedVariables false
set_option linter.unusedSimpArgs false
set_option maxRecDepth 100000
set_option maxHeartbeats 4000000
namespace Go.Sw
open Go.Proofs Tryz
def Mat.wf(x:Mat):Prop:=(λs=>s.length<=1048576) x.Name/\(Qk .i64) x.Kind/\True
theorem QpU(n:Nat):RB prog n 143 Mat Mat.c Mat.wf:=(QX (RB.struct underlying143 (by kernel_rfl) (Em (k:=1) rfl (by kernel_rfl) (RB.string underlying9) (Em (k:=1) rfl (by kernel_rfl) (RB.int underlying3) RF.nil))) (λp=>⟨p.1,p.2.1⟩) Zf (λ_ h=>h)).down
def Leg.wf(x:Leg):Prop:=(Qk .i64) x.From/\(Qk .i64) x.To/\(Qk .i64) x.Min/\(Qk .i64) x.Max/\True
theorem QpT(n:Nat):RB prog n 145 Leg Leg.c Leg.wf:=(QX (RB.struct underlying145 (by kernel_rfl) (Em (k:=1) rfl (by kernel_rfl) (RB.int underlying3) (Em (k:=1) rfl (by kernel_rfl) (RB.int underlying3) (Em (k:=1) rfl (by kernel_rfl) (RB.int underlying3) (Em (k:=1) rfl (by kernel_rfl) (RB.int underlying3) RF.nil))))) (λp=>⟨p.1,p.2.1,p.2.2.1,p.2.2.2.1⟩) Zf (λ_ h=>h)).down
mutual
def Part.wf:Part->Prop
  |⟨x0,x1,x2⟩=>((Qk .i64) x0)/\((Qk .i64) x1)/\(x2.length<=1048576/\Part.wfs x2)/\True
def Part.wfs:List Part->Prop
  |[]=>True
  |x::l=>Part.wf x/\Part.wfs l
end
theorem Qds(l:List Part):Part.wfs l↔ ∀x∈l,Part.wf x:=by
  induction l with
  |nil=>simp[Part.wfs]
  |cons x l ih=>simp[Part.wfs,ih]
theorem QpS:∀n,RB prog n 147 Part Part.enc Part.wf:=QeF (λn ih=>QX (RB.struct underlying147 (by kernel_rfl) (Em (k:=1) rfl (by kernel_rfl) (RB.int underlying3) (Em (k:=1) rfl (by kernel_rfl) (RB.int underlying3) (Em (k:=1) rfl (by kernel_rfl) (RB.slice (k:=3) underlying109 (by kernel_rfl) rfl (λx=>by rw[YL];rfl) ih).down RF.nil)))) (λp=>⟨p.1,p.2.1,p.2.2.1⟩) (λp=>by simp[Part.enc,Qdt,Qf,Qa6,encS,QnH]) (λp h=>by simpa[Part.wf,Qds]using h))
def Cutoff.wf(x:Cutoff):Prop:=(Qk .i64) x.Mat/\(Qk .i64) x.Lap/\(Qk .i64) x.Limit/\True
theorem QpQ(n:Nat):RB prog n 238 Cutoff Cutoff.c Cutoff.wf:=(QX (RB.struct underlying238 (by kernel_rfl) (Em (k:=1) rfl (by kernel_rfl) (RB.int underlying3) (Em (k:=1) rfl (by kernel_rfl) (RB.int underlying3) (Em (k:=1) rfl (by kernel_rfl) (RB.int underlying3) RF.nil)))) (λp=>⟨p.1,p.2.1,p.2.2.1⟩) Zf (λ_ h=>h)).down
def Distance.wf(x:Distance):Prop:=(λs=>s.length<=1048576) x.Name/\(λl=>l.length<=1048576/\ ∀x∈l,Part.wf x) x.Route/\(Qk .i64) x.Timing/\(λl=>l.length<=1048576/\ ∀x∈l,Cutoff.wf x) x.Cutoffs/\(Qk .i64) x.Extra/\True
theorem QpY(n:Nat):RB prog n 112 Distance Distance.c Distance.wf:=(QX (RB.struct underlying112 (by kernel_rfl) (Em (k:=1) rfl (by kernel_rfl) (RB.string underlying9) (Em (k:=1) rfl (by kernel_rfl) (RB.slice (k:=3) underlying109 (by kernel_rfl) rfl (λx=>by rw[YL];rfl) (QpS n)).down (Em (k:=1) rfl (by kernel_rfl) (RB.int underlying3) (Em (k:=1) rfl (by kernel_rfl) (RB.slice (k:=3) underlying110 (by kernel_rfl) rfl Zf (QpQ n)).down (Em (k:=1) rfl (by kernel_rfl) (RB.int underlying3) RF.nil)))))) (λp=>⟨p.1,p.2.1,p.2.2.1,p.2.2.2.1,p.2.2.2.2.1⟩) Zf (λ_ h=>h)).down
def Wave.wf(x:Wave):Prop:=(λs=>s.length<=1048576) x.Name/\(Qk .i64) x.Gun/\True
theorem QpV(n:Nat):RB prog n 141 Wave Wave.c Wave.wf:=(QX (RB.struct underlying141 (by kernel_rfl) (Em (k:=1) rfl (by kernel_rfl) (RB.string underlying9) (Em (k:=1) rfl (by kernel_rfl) (RB.int underlying3) RF.nil))) (λp=>⟨p.1,p.2.1⟩) Zf (λ_ h=>h)).down
def Offence.wf(x:Offence):Prop:=(λs=>s.length<=1048576) x.Name/\(Qk .i64) x.Time/\(Qk .i64) x.Laps/\(λ_=>True) x.Out/\True
theorem rd_92(n:Nat):RB prog n 92 Offence Offence.c Offence.wf:=(QX (RB.struct underlying92 (by kernel_rfl) (Em (k:=1) rfl (by kernel_rfl) (RB.string underlying9) (Em (k:=1) rfl (by kernel_rfl) (RB.int underlying3) (Em (k:=1) rfl (by kernel_rfl) (RB.int underlying3) (Em (k:=1) rfl (by kernel_rfl) (RB.bool underlying4) RF.nil))))) (λp=>⟨p.1,p.2.1,p.2.2.1,p.2.2.2.1⟩) Zf (λ_ h=>h)).down
def Category.wf(x:Category):Prop:=(λs=>s.length<=1048576) x.Name/\(Qk .i64) x.From/\(Qk .i64) x.To/\True
theorem QpR(n:Nat):RB prog n 232 Category Category.c Category.wf:=(QX (RB.struct underlying232 (by kernel_rfl) (Em (k:=1) rfl (by kernel_rfl) (RB.string underlying9) (Em (k:=1) rfl (by kernel_rfl) (RB.int underlying3) (Em (k:=1) rfl (by kernel_rfl) (RB.int underlying3) RF.nil)))) (λp=>⟨p.1,p.2.1,p.2.2.1⟩) Zf (λ_ h=>h)).down
def Prize.wf(x:Prize):Prop:=(Qk .i64) x.Distance/\(Qk .i64) x.Category/\(Qk .i64) x.Rank/\(Qk .i64) x.Amount/\True
theorem QpP(n:Nat):RB prog n 244 Prize Prize.c Prize.wf:=(QX (RB.struct underlying244 (by kernel_rfl) (Em (k:=1) rfl (by kernel_rfl) (RB.int underlying3) (Em (k:=1) rfl (by kernel_rfl) (RB.int underlying3) (Em (k:=1) rfl (by kernel_rfl) (RB.int underlying3) (Em (k:=1) rfl (by kernel_rfl) (RB.int underlying3) RF.nil))))) (λp=>⟨p.1,p.2.1,p.2.2.1,p.2.2.2.1⟩) Zf (λ_ h=>h)).down
mutual
def Cond.wf:Cond->Prop
  |⟨x0,x1,x2,x3⟩=>((Qk .i64) x0)/\((Qk .i64) x1)/\((Qk .i64) x2)/\(x3.length<=1048576/\Cond.wfs x3)/\True
def Cond.wfs:List Cond->Prop
  |[]=>True
  |x::l=>Cond.wf x/\Cond.wfs l
end
theorem Qdv(l:List Cond):Cond.wfs l↔ ∀x∈l,Cond.wf x:=by
  induction l with
  |nil=>simp[Cond.wfs]
  |cons x l ih=>simp[Cond.wfs,ih]
theorem QpX:∀n,RB prog n 137 Cond Cond.enc Cond.wf:=QeF (λn ih=>QX (RB.struct underlying137 (by kernel_rfl) (Em (k:=1) rfl (by kernel_rfl) (RB.int underlying3) (Em (k:=1) rfl (by kernel_rfl) (RB.int underlying3) (Em (k:=1) rfl (by kernel_rfl) (RB.int underlying3) (Em (k:=1) rfl (by kernel_rfl) (RB.slice (k:=4) underlying135 (by kernel_rfl) rfl (λx=>by rw[Qa3];rfl) ih).down RF.nil))))) (λp=>⟨p.1,p.2.1,p.2.2.1,p.2.2.2.1⟩) (λp=>by simp[Cond.enc,Qdw,Qf,Qa6,encS,QnH]) (λp h=>by simpa[Cond.wf,Qdv]using h))
mutual
def Step.wf:Step->Prop
  |⟨x0,x1,x2,x3,x4⟩=>((Qk .i64) x0)/\((Qk .i64) x1)/\(Cond.wf x2)/\(x3.length<=1048576/\Step.wfs x3)/\(x4.length<=1048576/\Step.wfs x4)/\True
def Step.wfs:List Step->Prop
  |[]=>True
  |x::l=>Step.wf x/\Step.wfs l
end
theorem Qdm(l:List Step):Step.wfs l↔ ∀x∈l,Step.wf x:=by
  induction l with
  |nil=>simp[Step.wfs]
  |cons x l ih=>simp[Step.wfs,ih]
theorem QpW:∀n,RB prog n 139 Step Step.enc Step.wf:=QeF (λn ih=>QX (RB.struct underlying139 (by kernel_rfl) (Em (k:=1) rfl (by kernel_rfl) (RB.int underlying3) (Em (k:=1) rfl (by kernel_rfl) (RB.int underlying3) (Em (k:=4) rfl (by kernel_rfl) (QpX n) (Em (k:=1) rfl (by kernel_rfl) (RB.slice (k:=8) underlying29 (by kernel_rfl) rfl (λx=>by rw[YT];rfl) ih).down (Em (k:=1) rfl (by kernel_rfl) (RB.slice (k:=8) underlying29 (by kernel_rfl) rfl (λx=>by rw[YT];rfl) ih).down RF.nil)))))) (λp=>⟨p.1,p.2.1,p.2.2.1,p.2.2.2.1,p.2.2.2.2.1⟩) (λp=>by simp[Step.enc,Qdn,Qf,Qa6,encS,QnH,Qa3,Cond.c]) (λp h=>by simpa[Step.wf,Qdm]using h))
def Faults.wf(x:Faults):Prop:=(Qk .i64) x.Misses/\(Qk .i64) x.Strays/\(Qk .i64) x.Window/\(Qk .i64) x.Residual/\(Qk .i64) x.Drift/\True
theorem rd_31(n:Nat):RB prog n 31 Faults Faults.c Faults.wf:=(QX (RB.struct underlying31 (by kernel_rfl) (Em (k:=1) rfl (by kernel_rfl) (RB.int underlying3) (Em (k:=1) rfl (by kernel_rfl) (RB.int underlying3) (Em (k:=1) rfl (by kernel_rfl) (RB.int underlying3) (Em (k:=1) rfl (by kernel_rfl) (RB.int underlying3) (Em (k:=1) rfl (by kernel_rfl) (RB.int underlying3) RF.nil)))))) (λp=>⟨p.1,p.2.1,p.2.2.1,p.2.2.2.1,p.2.2.2.2.1⟩) Zf (λ_ h=>h)).down
def Course.wf(x:Course):Prop:=(λs=>s.length<=1048576) x.Name/\(λl=>l.length<=1048576/\ ∀x∈l,Mat.wf x) x.Mats/\(λl=>l.length<=1048576/\ ∀x∈l,Leg.wf x) x.Legs/\(λl=>l.length<=1048576/\ ∀x∈l,Distance.wf x) x.Distances/\(λl=>l.length<=1048576/\ ∀x∈l,Wave.wf x) x.Waves/\(λl=>l.length<=1048576/\ ∀x∈l,Offence.wf x) x.Offences/\(λl=>l.length<=1048576/\ ∀x∈l,Category.wf x) x.Categories/\(λl=>l.length<=1048576/\ ∀x∈l,Prize.wf x) x.Prizes/\(λl=>l.length<=1048576/\ ∀x∈l,Step.wf x) x.Ties/\Faults.wf x.Faults/\(Qk .i64) x.Fee/\(Qk .i64) x.Deadline/\True
theorem rd_33(n:Nat):RB prog n 33 Course Course.c Course.wf:=(QX (RB.struct underlying33 (by kernel_rfl) (Em (k:=1) rfl (by kernel_rfl) (RB.string underlying9) (Em (k:=1) rfl (by kernel_rfl) (RB.slice (k:=2) underlying22 (by kernel_rfl) rfl Zf (QpU n)).down (Em (k:=1) rfl (by kernel_rfl) (RB.slice (k:=4) underlying23 (by kernel_rfl) rfl Zf (QpT n)).down (Em (k:=1) rfl (by kernel_rfl) (RB.slice (k:=5) underlying24 (by kernel_rfl) rfl Zf (QpY n)).down (Em (k:=1) rfl (by kernel_rfl) (RB.slice (k:=2) underlying25 (by kernel_rfl) rfl Zf (QpV n)).down (Em (k:=1) rfl (by kernel_rfl) (RB.slice (k:=4) underlying26 (by kernel_rfl) rfl Zf (rd_92 n)).down (Em (k:=1) rfl (by kernel_rfl) (RB.slice (k:=3) underlying27 (by kernel_rfl) rfl Zf (QpR n)).down (Em (k:=1) rfl (by kernel_rfl) (RB.slice (k:=4) underlying28 (by kernel_rfl) rfl Zf (QpP n)).down (Em (k:=1) rfl (by kernel_rfl) (RB.slice (k:=8) underlying29 (by kernel_rfl) rfl (λx=>by rw[YT];rfl) (QpW n)).down (Em (k:=5) rfl (by kernel_rfl) (rd_31 n) (Em (k:=1) rfl (by kernel_rfl) (RB.int underlying3) (Em (k:=1) rfl (by kernel_rfl) (RB.int underlying3) RF.nil))))))))))))) (λp=>⟨p.1,p.2.1,p.2.2.1,p.2.2.2.1,p.2.2.2.2.1,p.2.2.2.2.2.1,p.2.2.2.2.2.2.1,p.2.2.2.2.2.2.2.1,p.2.2.2.2.2.2.2.2.1,p.2.2.2.2.2.2.2.2.2.1,p.2.2.2.2.2.2.2.2.2.2.1,p.2.2.2.2.2.2.2.2.2.2.2.1⟩) Zf (λ_ h=>h)).down
def Starter.wf(x:Starter):Prop:=(Qk .i64) x.Bib/\(Qk .i64) x.Distance/\(Qk .i64) x.Wave/\(Qk .i64) x.Slot/\(Qk .i64) x.Age/\(Qk .i64) x.Chip/\(Qk .i64) x.Team/\(Qk .i64) x.Lot/\True
theorem rd_56(n:Nat):RB prog n 56 Starter Starter.c Starter.wf:=(QX (RB.struct underlying56 (by kernel_rfl) (Em (k:=1) rfl (by kernel_rfl) (RB.int underlying3) (Em (k:=1) rfl (by kernel_rfl) (RB.int underlying3) (Em (k:=1) rfl (by kernel_rfl) (RB.int underlying3) (Em (k:=1) rfl (by kernel_rfl) (RB.int underlying3) (Em (k:=1) rfl (by kernel_rfl) (RB.int underlying3) (Em (k:=1) rfl (by kernel_rfl) (RB.int underlying3) (Em (k:=1) rfl (by kernel_rfl) (RB.int underlying3) (Em (k:=1) rfl (by kernel_rfl) (RB.int underlying3) RF.nil))))))))) (λp=>⟨p.1,p.2.1,p.2.2.1,p.2.2.2.1,p.2.2.2.2.1,p.2.2.2.2.2.1,p.2.2.2.2.2.2.1,p.2.2.2.2.2.2.2.1⟩) Zf (λ_ h=>h)).down
def Read.wf(x:Read):Prop:=(Qk .i64) x.Mat/\(Qk .i64) x.Epoch/\(Qk .i64) x.Chip/\(Qk .i64) x.Local/\True
theorem rd_61(n:Nat):RB prog n 61 Read Read.c Read.wf:=(QX (RB.struct underlying61 (by kernel_rfl) (Em (k:=1) rfl (by kernel_rfl) (RB.int underlying3) (Em (k:=1) rfl (by kernel_rfl) (RB.int underlying3) (Em (k:=1) rfl (by kernel_rfl) (RB.int underlying3) (Em (k:=1) rfl (by kernel_rfl) (RB.int underlying3) RF.nil))))) (λp=>⟨p.1,p.2.1,p.2.2.1,p.2.2.2.1⟩) Zf (λ_ h=>h)).down
def Beacon.wf(x:Beacon):Prop:=(Qk .i64) x.Mat/\(Qk .i64) x.Epoch/\(Qk .i64) x.Local/\(Qk .i64) x.True/\(Qk .i64) x.Err/\_root_.True
theorem rd_63(n:Nat):RB prog n 63 Beacon Beacon.c Beacon.wf:=(QX (RB.struct underlying63 (by kernel_rfl) (Em (k:=1) rfl (by kernel_rfl) (RB.int underlying3) (Em (k:=1) rfl (by kernel_rfl) (RB.int underlying3) (Em (k:=1) rfl (by kernel_rfl) (RB.int underlying3) (Em (k:=1) rfl (by kernel_rfl) (RB.int underlying3) (Em (k:=1) rfl (by kernel_rfl) (RB.int underlying3) RF.nil)))))) (λp=>⟨p.1,p.2.1,p.2.2.1,p.2.2.2.1,p.2.2.2.2.1⟩) Zf (λ_ h=>h)).down
def Sync.wf(x:Sync):Prop:=(Qk .i64) x.MatA/\(Qk .i64) x.EpochA/\(Qk .i64) x.LocalA/\(Qk .i64) x.MatB/\(Qk .i64) x.EpochB/\(Qk .i64) x.LocalB/\(Qk .i64) x.Min/\(Qk .i64) x.Max/\True
theorem rd_65(n:Nat):RB prog n 65 Sync Sync.c Sync.wf:=(QX (RB.struct underlying65 (by kernel_rfl) (Em (k:=1) rfl (by kernel_rfl) (RB.int underlying3) (Em (k:=1) rfl (by kernel_rfl) (RB.int underlying3) (Em (k:=1) rfl (by kernel_rfl) (RB.int underlying3) (Em (k:=1) rfl (by kernel_rfl) (RB.int underlying3) (Em (k:=1) rfl (by kernel_rfl) (RB.int underlying3) (Em (k:=1) rfl (by kernel_rfl) (RB.int underlying3) (Em (k:=1) rfl (by kernel_rfl) (RB.int underlying3) (Em (k:=1) rfl (by kernel_rfl) (RB.int underlying3) RF.nil))))))))) (λp=>⟨p.1,p.2.1,p.2.2.1,p.2.2.2.1,p.2.2.2.2.1,p.2.2.2.2.2.1,p.2.2.2.2.2.2.1,p.2.2.2.2.2.2.2.1⟩) Zf (λ_ h=>h)).down
def Hand.wf(x:Hand):Prop:=(Qk .i64) x.Bib/\(Qk .i64) x.Position/\(Qk .i64) x.Lo/\(Qk .i64) x.Hi/\True
theorem rd_67(n:Nat):RB prog n 67 Hand Hand.c Hand.wf:=(QX (RB.struct underlying67 (by kernel_rfl) (Em (k:=1) rfl (by kernel_rfl) (RB.int underlying3) (Em (k:=1) rfl (by kernel_rfl) (RB.int underlying3) (Em (k:=1) rfl (by kernel_rfl) (RB.int underlying3) (Em (k:=1) rfl (by kernel_rfl) (RB.int underlying3) RF.nil))))) (λp=>⟨p.1,p.2.1,p.2.2.1,p.2.2.2.1⟩) Zf (λ_ h=>h)).down
def Silence.wf(x:Silence):Prop:=(Qk .i64) x.Mat/\(Qk .i64) x.Epoch/\(Qk .i64) x.Lo/\(Qk .i64) x.Hi/\True
theorem rd_69(n:Nat):RB prog n 69 Silence Silence.c Silence.wf:=(QX (RB.struct underlying69 (by kernel_rfl) (Em (k:=1) rfl (by kernel_rfl) (RB.int underlying3) (Em (k:=1) rfl (by kernel_rfl) (RB.int underlying3) (Em (k:=1) rfl (by kernel_rfl) (RB.int underlying3) (Em (k:=1) rfl (by kernel_rfl) (RB.int underlying3) RF.nil))))) (λp=>⟨p.1,p.2.1,p.2.2.1,p.2.2.2.1⟩) Zf (λ_ h=>h)).down
def Pair.wf(x:Pair):Prop:=(Qk .i64) x.A/\(Qk .i64) x.B/\True
theorem rd_71(n:Nat):RB prog n 71 Pair Pair.c Pair.wf:=(QX (RB.struct underlying71 (by kernel_rfl) (Em (k:=1) rfl (by kernel_rfl) (RB.int underlying3) (Em (k:=1) rfl (by kernel_rfl) (RB.int underlying3) RF.nil))) (λp=>⟨p.1,p.2.1⟩) Zf (λ_ h=>h)).down
def Report.wf(x:Report):Prop:=(Qk .i64) x.Case/\(Qk .i64) x.Bib/\(Qk .i64) x.Offence/\(Qk .i64) x.Position/\True
theorem rd_73(n:Nat):RB prog n 73 Report Report.c Report.wf:=(QX (RB.struct underlying73 (by kernel_rfl) (Em (k:=1) rfl (by kernel_rfl) (RB.int underlying3) (Em (k:=1) rfl (by kernel_rfl) (RB.int underlying3) (Em (k:=1) rfl (by kernel_rfl) (RB.int underlying3) (Em (k:=1) rfl (by kernel_rfl) (RB.int underlying3) RF.nil))))) (λp=>⟨p.1,p.2.1,p.2.2.1,p.2.2.2.1⟩) Zf (λ_ h=>h)).down
def Protest.wf(x:Protest):Prop:=(Qk .i64) x.Case/\(Qk .i64) x.By/\(Qk .i64) x.Fee/\(Qk .i64) x.Form/\True
theorem rd_75(n:Nat):RB prog n 75 Protest Protest.c Protest.wf:=(QX (RB.struct underlying75 (by kernel_rfl) (Em (k:=1) rfl (by kernel_rfl) (RB.int underlying3) (Em (k:=1) rfl (by kernel_rfl) (RB.int underlying3) (Em (k:=1) rfl (by kernel_rfl) (RB.int underlying3) (Em (k:=1) rfl (by kernel_rfl) (RB.int underlying3) RF.nil))))) (λp=>⟨p.1,p.2.1,p.2.2.1,p.2.2.2.1⟩) Zf (λ_ h=>h)).down
def Ruling.wf(x:Ruling):Prop:=(Qk .i64) x.Case/\(Qk .i64) x.Instance/\(Qk .i64) x.Kind/\(Qk .i64) x.Bib/\(Qk .i64) x.Position/\(Qk .i64) x.Amount/\True
theorem rd_77(n:Nat):RB prog n 77 Ruling Ruling.c Ruling.wf:=(QX (RB.struct underlying77 (by kernel_rfl) (Em (k:=1) rfl (by kernel_rfl) (RB.int underlying3) (Em (k:=1) rfl (by kernel_rfl) (RB.int underlying3) (Em (k:=1) rfl (by kernel_rfl) (RB.int underlying3) (Em (k:=1) rfl (by kernel_rfl) (RB.int underlying3) (Em (k:=1) rfl (by kernel_rfl) (RB.int underlying3) (Em (k:=1) rfl (by kernel_rfl) (RB.int underlying3) RF.nil))))))) (λp=>⟨p.1,p.2.1,p.2.2.1,p.2.2.2.1,p.2.2.2.2.1,p.2.2.2.2.2.1⟩) Zf (λ_ h=>h)).down
def Appeal.wf(x:Appeal):Prop:=(Qk .i64) x.Case/\(λ_=>True) x.Suspends/\True
theorem rd_79(n:Nat):RB prog n 79 Appeal Appeal.c Appeal.wf:=(QX (RB.struct underlying79 (by kernel_rfl) (Em (k:=1) rfl (by kernel_rfl) (RB.int underlying3) (Em (k:=1) rfl (by kernel_rfl) (RB.bool underlying4) RF.nil))) (λp=>⟨p.1,p.2.1⟩) Zf (λ_ h=>h)).down
def Ref.wf(x:Ref):Prop:=(Qk .i64) x.Crew/\(Qk .i64) x.No/\True
theorem rd_81(n:Nat):RB prog n 81 Ref Ref.c Ref.wf:=(QX (RB.struct underlying81 (by kernel_rfl) (Em (k:=1) rfl (by kernel_rfl) (RB.int underlying3) (Em (k:=1) rfl (by kernel_rfl) (RB.int underlying3) RF.nil))) (λp=>⟨p.1,p.2.1⟩) Zf (λ_ h=>h)).down
def Fact.wf(x:Fact):Prop:=(Qk .i64) x.Crew/\(Qk .i64) x.No/\(Qk .i64) x.At/\(Qk .i64) x.Kind/\Starter.wf x.Starter/\Read.wf x.Read/\Beacon.wf x.Beacon/\Sync.wf x.Sync/\Hand.wf x.Hand/\Silence.wf x.Silence/\Pair.wf x.Pair/\Report.wf x.Report/\Protest.wf x.Protest/\Ruling.wf x.Ruling/\Appeal.wf x.Appeal/\Ref.wf x.Void/\True
theorem rd_83(n:Nat):RB prog n 83 Fact Fact.c Fact.wf:=(QX (RB.struct underlying83 (by kernel_rfl) (Em (k:=1) rfl (by kernel_rfl) (RB.int underlying3) (Em (k:=1) rfl (by kernel_rfl) (RB.int underlying3) (Em (k:=1) rfl (by kernel_rfl) (RB.int underlying3) (Em (k:=1) rfl (by kernel_rfl) (RB.int underlying3) (Em (k:=8) rfl (by kernel_rfl) (rd_56 n) (Em (k:=4) rfl (by kernel_rfl) (rd_61 n) (Em (k:=5) rfl (by kernel_rfl) (rd_63 n) (Em (k:=8) rfl (by kernel_rfl) (rd_65 n) (Em (k:=4) rfl (by kernel_rfl) (rd_67 n) (Em (k:=4) rfl (by kernel_rfl) (rd_69 n) (Em (k:=2) rfl (by kernel_rfl) (rd_71 n) (Em (k:=4) rfl (by kernel_rfl) (rd_73 n) (Em (k:=4) rfl (by kernel_rfl) (rd_75 n) (Em (k:=6) rfl (by kernel_rfl) (rd_77 n) (Em (k:=2) rfl (by kernel_rfl) (rd_79 n) (Em (k:=2) rfl (by kernel_rfl) (rd_81 n) RF.nil))))))))))))))))) (λp=>⟨p.1,p.2.1,p.2.2.1,p.2.2.2.1,p.2.2.2.2.1,p.2.2.2.2.2.1,p.2.2.2.2.2.2.1,p.2.2.2.2.2.2.2.1,p.2.2.2.2.2.2.2.2.1,p.2.2.2.2.2.2.2.2.2.1,p.2.2.2.2.2.2.2.2.2.2.1,p.2.2.2.2.2.2.2.2.2.2.2.1,p.2.2.2.2.2.2.2.2.2.2.2.2.1,p.2.2.2.2.2.2.2.2.2.2.2.2.2.1,p.2.2.2.2.2.2.2.2.2.2.2.2.2.2.1,p.2.2.2.2.2.2.2.2.2.2.2.2.2.2.2.1⟩) Zf (λ_ h=>h)).down
end Go.Sw
