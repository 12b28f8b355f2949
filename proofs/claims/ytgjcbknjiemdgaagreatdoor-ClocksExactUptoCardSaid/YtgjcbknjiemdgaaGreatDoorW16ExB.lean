/- How the arguments of ClocksExact are read. -/
import Derived.Test.YtgjcbknjiemdgaaGreatDoorW16ExA
set_option linter.unusedVariables false
set_option linter.unusedSimpArgs false
set_option maxRecDepth 100000
set_option maxHeartbeats 4000000
namespace Go.Sw
open Go.Proofs Tryz
def Mat.wf(x:Mat):Prop:=(λs=>s.length<=1048576) x.Name/\(Qk .i64) x.Kind/\True
theorem QoE(n:Nat):RB prog n 119 Mat Mat.c Mat.wf:=(QT (RB.struct underlying119 (by kernel_rfl) (Em (k:=1) rfl (by kernel_rfl) (RB.string underlying9) (Em (k:=1) rfl (by kernel_rfl) (RB.int underlying3) RF.nil))) (λp=>⟨p.1,p.2.1⟩) Zf (λ_ h=>h)).down
def Leg.wf(x:Leg):Prop:=(Qk .i64) x.From/\(Qk .i64) x.To/\(Qk .i64) x.Min/\(Qk .i64) x.Max/\True
theorem QoA(n:Nat):RB prog n 162 Leg Leg.c Leg.wf:=(QT (RB.struct underlying162 (by kernel_rfl) (Em (k:=1) rfl (by kernel_rfl) (RB.int underlying3) (Em (k:=1) rfl (by kernel_rfl) (RB.int underlying3) (Em (k:=1) rfl (by kernel_rfl) (RB.int underlying3) (Em (k:=1) rfl (by kernel_rfl) (RB.int underlying3) RF.nil))))) (λp=>⟨p.1,p.2.1,p.2.2.1,p.2.2.2.1⟩) Zf (λ_ h=>h)).down
mutual
def Part.wf:Part->Prop
  |⟨x0,x1,x2⟩=>((Qk .i64) x0)/\((Qk .i64) x1)/\(x2.length<=1048576/\Part.wfs x2)/\True
def Part.wfs:List Part->Prop
  |[]=>True
  |x::l=>Part.wf x/\Part.wfs l
end
theorem QcY(l:List Part):Part.wfs l↔ ∀x∈l,Part.wf x:=by
  induction l with
  |nil=>simp[Part.wfs]
  |cons x l ih=>simp[Part.wfs,ih]
theorem QoB:∀n,RB prog n 156 Part Part.enc Part.wf:=Qeo (λn ih=>QT (RB.struct underlying156 (by kernel_rfl) (Em (k:=1) rfl (by kernel_rfl) (RB.int underlying3) (Em (k:=1) rfl (by kernel_rfl) (RB.int underlying3) (Em (k:=1) rfl (by kernel_rfl) (RB.slice (k:=3) underlying108 (by kernel_rfl) rfl (λx=>by rw[YG];rfl) ih).down RF.nil)))) (λp=>⟨p.1,p.2.1,p.2.2.1⟩) (λp=>by simp[Part.enc,QcZ,Qe,Qa1,encS,Qn]) (λp h=>by simpa[Part.wf,QcY]using h))
def Cutoff.wf(x:Cutoff):Prop:=(Qk .i64) x.Mat/\(Qk .i64) x.Lap/\(Qk .i64) x.Limit/\True
theorem Qow(n:Nat):RB prog n 215 Cutoff Cutoff.c Cutoff.wf:=(QT (RB.struct underlying215 (by kernel_rfl) (Em (k:=1) rfl (by kernel_rfl) (RB.int underlying3) (Em (k:=1) rfl (by kernel_rfl) (RB.int underlying3) (Em (k:=1) rfl (by kernel_rfl) (RB.int underlying3) RF.nil)))) (λp=>⟨p.1,p.2.1,p.2.2.1⟩) Zf (λ_ h=>h)).down
def Distance.wf(x:Distance):Prop:=(λs=>s.length<=1048576) x.Name/\(λl=>l.length<=1048576/\ ∀x∈l,Part.wf x) x.Route/\(Qk .i64) x.Timing/\(λl=>l.length<=1048576/\ ∀x∈l,Cutoff.wf x) x.Cutoffs/\(Qk .i64) x.Extra/\True
theorem QoF(n:Nat):RB prog n 111 Distance Distance.c Distance.wf:=(QT (RB.struct underlying111 (by kernel_rfl) (Em (k:=1) rfl (by kernel_rfl) (RB.string underlying9) (Em (k:=1) rfl (by kernel_rfl) (RB.slice (k:=3) underlying108 (by kernel_rfl) rfl (λx=>by rw[YG];rfl) (QoB n)).down (Em (k:=1) rfl (by kernel_rfl) (RB.int underlying3) (Em (k:=1) rfl (by kernel_rfl) (RB.slice (k:=3) underlying109 (by kernel_rfl) rfl Zf (Qow n)).down (Em (k:=1) rfl (by kernel_rfl) (RB.int underlying3) RF.nil)))))) (λp=>⟨p.1,p.2.1,p.2.2.1,p.2.2.2.1,p.2.2.2.2.1⟩) Zf (λ_ h=>h)).down
def Wave.wf(x:Wave):Prop:=(λs=>s.length<=1048576) x.Name/\(Qk .i64) x.Gun/\True
theorem Qoz(n:Nat):RB prog n 201 Wave Wave.c Wave.wf:=(QT (RB.struct underlying201 (by kernel_rfl) (Em (k:=1) rfl (by kernel_rfl) (RB.string underlying9) (Em (k:=1) rfl (by kernel_rfl) (RB.int underlying3) RF.nil))) (λp=>⟨p.1,p.2.1⟩) Zf (λ_ h=>h)).down
def Offence.wf(x:Offence):Prop:=(λs=>s.length<=1048576) x.Name/\(Qk .i64) x.Time/\(Qk .i64) x.Laps/\(λ_=>True) x.Out/\True
theorem Qoy(n:Nat):RB prog n 205 Offence Offence.c Offence.wf:=(QT (RB.struct underlying205 (by kernel_rfl) (Em (k:=1) rfl (by kernel_rfl) (RB.string underlying9) (Em (k:=1) rfl (by kernel_rfl) (RB.int underlying3) (Em (k:=1) rfl (by kernel_rfl) (RB.int underlying3) (Em (k:=1) rfl (by kernel_rfl) (RB.bool underlying4) RF.nil))))) (λp=>⟨p.1,p.2.1,p.2.2.1,p.2.2.2.1⟩) Zf (λ_ h=>h)).down
def Category.wf(x:Category):Prop:=(λs=>s.length<=1048576) x.Name/\(Qk .i64) x.From/\(Qk .i64) x.To/\True
theorem Qox(n:Nat):RB prog n 209 Category Category.c Category.wf:=(QT (RB.struct underlying209 (by kernel_rfl) (Em (k:=1) rfl (by kernel_rfl) (RB.string underlying9) (Em (k:=1) rfl (by kernel_rfl) (RB.int underlying3) (Em (k:=1) rfl (by kernel_rfl) (RB.int underlying3) RF.nil)))) (λp=>⟨p.1,p.2.1,p.2.2.1⟩) Zf (λ_ h=>h)).down
def Prize.wf(x:Prize):Prop:=(Qk .i64) x.Distance/\(Qk .i64) x.Category/\(Qk .i64) x.Rank/\(Qk .i64) x.Amount/\True
theorem Qov(n:Nat):RB prog n 221 Prize Prize.c Prize.wf:=(QT (RB.struct underlying221 (by kernel_rfl) (Em (k:=1) rfl (by kernel_rfl) (RB.int underlying3) (Em (k:=1) rfl (by kernel_rfl) (RB.int underlying3) (Em (k:=1) rfl (by kernel_rfl) (RB.int underlying3) (Em (k:=1) rfl (by kernel_rfl) (RB.int underlying3) RF.nil))))) (λp=>⟨p.1,p.2.1,p.2.2.1,p.2.2.2.1⟩) Zf (λ_ h=>h)).down
mutual
def Cond.wf:Cond->Prop
  |⟨x0,x1,x2,x3⟩=>((Qk .i64) x0)/\((Qk .i64) x1)/\((Qk .i64) x2)/\(x3.length<=1048576/\Cond.wfs x3)/\True
def Cond.wfs:List Cond->Prop
  |[]=>True
  |x::l=>Cond.wf x/\Cond.wfs l
end
theorem Qc3(l:List Cond):Cond.wfs l↔ ∀x∈l,Cond.wf x:=by
  induction l with
  |nil=>simp[Cond.wfs]
  |cons x l ih=>simp[Cond.wfs,ih]
theorem QoD:∀n,RB prog n 152 Cond Cond.enc Cond.wf:=Qeo (λn ih=>QT (RB.struct underlying152 (by kernel_rfl) (Em (k:=1) rfl (by kernel_rfl) (RB.int underlying3) (Em (k:=1) rfl (by kernel_rfl) (RB.int underlying3) (Em (k:=1) rfl (by kernel_rfl) (RB.int underlying3) (Em (k:=1) rfl (by kernel_rfl) (RB.slice (k:=4) underlying150 (by kernel_rfl) rfl (λx=>by rw[QaW];rfl) ih).down RF.nil))))) (λp=>⟨p.1,p.2.1,p.2.2.1,p.2.2.2.1⟩) (λp=>by simp[Cond.enc,Qc4,Qe,Qa1,encS,Qn]) (λp h=>by simpa[Cond.wf,Qc3]using h))
mutual
def Step.wf:Step->Prop
  |⟨x0,x1,x2,x3,x4⟩=>((Qk .i64) x0)/\((Qk .i64) x1)/\(Cond.wf x2)/\(x3.length<=1048576/\Step.wfs x3)/\(x4.length<=1048576/\Step.wfs x4)/\True
def Step.wfs:List Step->Prop
  |[]=>True
  |x::l=>Step.wf x/\Step.wfs l
end
theorem QcU(l:List Step):Step.wfs l↔ ∀x∈l,Step.wf x:=by
  induction l with
  |nil=>simp[Step.wfs]
  |cons x l ih=>simp[Step.wfs,ih]
theorem QoC:∀n,RB prog n 154 Step Step.enc Step.wf:=Qeo (λn ih=>QT (RB.struct underlying154 (by kernel_rfl) (Em (k:=1) rfl (by kernel_rfl) (RB.int underlying3) (Em (k:=1) rfl (by kernel_rfl) (RB.int underlying3) (Em (k:=4) rfl (by kernel_rfl) (QoD n) (Em (k:=1) rfl (by kernel_rfl) (RB.slice (k:=8) underlying29 (by kernel_rfl) rfl (λx=>by rw[YF];rfl) ih).down (Em (k:=1) rfl (by kernel_rfl) (RB.slice (k:=8) underlying29 (by kernel_rfl) rfl (λx=>by rw[YF];rfl) ih).down RF.nil)))))) (λp=>⟨p.1,p.2.1,p.2.2.1,p.2.2.2.1,p.2.2.2.2.1⟩) (λp=>by simp[Step.enc,QcV,Qe,Qa1,encS,Qn,QaW,Cond.c]) (λp h=>by simpa[Step.wf,QcU]using h))
def Faults.wf(x:Faults):Prop:=(Qk .i64) x.Misses/\(Qk .i64) x.Strays/\(Qk .i64) x.Window/\(Qk .i64) x.Residual/\(Qk .i64) x.Drift/\True
theorem rd_31(n:Nat):RB prog n 31 Faults Faults.c Faults.wf:=(QT (RB.struct underlying31 (by kernel_rfl) (Em (k:=1) rfl (by kernel_rfl) (RB.int underlying3) (Em (k:=1) rfl (by kernel_rfl) (RB.int underlying3) (Em (k:=1) rfl (by kernel_rfl) (RB.int underlying3) (Em (k:=1) rfl (by kernel_rfl) (RB.int underlying3) (Em (k:=1) rfl (by kernel_rfl) (RB.int underlying3) RF.nil)))))) (λp=>⟨p.1,p.2.1,p.2.2.1,p.2.2.2.1,p.2.2.2.2.1⟩) Zf (λ_ h=>h)).down
def Course.wf(x:Course):Prop:=(λs=>s.length<=1048576) x.Name/\(λl=>l.length<=1048576/\ ∀x∈l,Mat.wf x) x.Mats/\(λl=>l.length<=1048576/\ ∀x∈l,Leg.wf x) x.Legs/\(λl=>l.length<=1048576/\ ∀x∈l,Distance.wf x) x.Distances/\(λl=>l.length<=1048576/\ ∀x∈l,Wave.wf x) x.Waves/\(λl=>l.length<=1048576/\ ∀x∈l,Offence.wf x) x.Offences/\(λl=>l.length<=1048576/\ ∀x∈l,Category.wf x) x.Categories/\(λl=>l.length<=1048576/\ ∀x∈l,Prize.wf x) x.Prizes/\(λl=>l.length<=1048576/\ ∀x∈l,Step.wf x) x.Ties/\Faults.wf x.Faults/\(Qk .i64) x.Fee/\(Qk .i64) x.Deadline/\True
theorem rd_33(n:Nat):RB prog n 33 Course Course.c Course.wf:=(QT (RB.struct underlying33 (by kernel_rfl) (Em (k:=1) rfl (by kernel_rfl) (RB.string underlying9) (Em (k:=1) rfl (by kernel_rfl) (RB.slice (k:=2) underlying22 (by kernel_rfl) rfl Zf (QoE n)).down (Em (k:=1) rfl (by kernel_rfl) (RB.slice (k:=4) underlying23 (by kernel_rfl) rfl Zf (QoA n)).down (Em (k:=1) rfl (by kernel_rfl) (RB.slice (k:=5) underlying24 (by kernel_rfl) rfl Zf (QoF n)).down (Em (k:=1) rfl (by kernel_rfl) (RB.slice (k:=2) underlying25 (by kernel_rfl) rfl Zf (Qoz n)).down (Em (k:=1) rfl (by kernel_rfl) (RB.slice (k:=4) underlying26 (by kernel_rfl) rfl Zf (Qoy n)).down (Em (k:=1) rfl (by kernel_rfl) (RB.slice (k:=3) underlying27 (by kernel_rfl) rfl Zf (Qox n)).down (Em (k:=1) rfl (by kernel_rfl) (RB.slice (k:=4) underlying28 (by kernel_rfl) rfl Zf (Qov n)).down (Em (k:=1) rfl (by kernel_rfl) (RB.slice (k:=8) underlying29 (by kernel_rfl) rfl (λx=>by rw[YF];rfl) (QoC n)).down (Em (k:=5) rfl (by kernel_rfl) (rd_31 n) (Em (k:=1) rfl (by kernel_rfl) (RB.int underlying3) (Em (k:=1) rfl (by kernel_rfl) (RB.int underlying3) RF.nil))))))))))))) (λp=>⟨p.1,p.2.1,p.2.2.1,p.2.2.2.1,p.2.2.2.2.1,p.2.2.2.2.2.1,p.2.2.2.2.2.2.1,p.2.2.2.2.2.2.2.1,p.2.2.2.2.2.2.2.2.1,p.2.2.2.2.2.2.2.2.2.1,p.2.2.2.2.2.2.2.2.2.2.1,p.2.2.2.2.2.2.2.2.2.2.2.1⟩) Zf (λ_ h=>h)).down
def Starter.wf(x:Starter):Prop:=(Qk .i64) x.Bib/\(Qk .i64) x.Distance/\(Qk .i64) x.Wave/\(Qk .i64) x.Slot/\(Qk .i64) x.Age/\(Qk .i64) x.Chip/\(Qk .i64) x.Team/\(Qk .i64) x.Lot/\True
theorem rd_72(n:Nat):RB prog n 72 Starter Starter.c Starter.wf:=(QT (RB.struct underlying72 (by kernel_rfl) (Em (k:=1) rfl (by kernel_rfl) (RB.int underlying3) (Em (k:=1) rfl (by kernel_rfl) (RB.int underlying3) (Em (k:=1) rfl (by kernel_rfl) (RB.int underlying3) (Em (k:=1) rfl (by kernel_rfl) (RB.int underlying3) (Em (k:=1) rfl (by kernel_rfl) (RB.int underlying3) (Em (k:=1) rfl (by kernel_rfl) (RB.int underlying3) (Em (k:=1) rfl (by kernel_rfl) (RB.int underlying3) (Em (k:=1) rfl (by kernel_rfl) (RB.int underlying3) RF.nil))))))))) (λp=>⟨p.1,p.2.1,p.2.2.1,p.2.2.2.1,p.2.2.2.2.1,p.2.2.2.2.2.1,p.2.2.2.2.2.2.1,p.2.2.2.2.2.2.2.1⟩) Zf (λ_ h=>h)).down
def Read.wf(x:Read):Prop:=(Qk .i64) x.Mat/\(Qk .i64) x.Epoch/\(Qk .i64) x.Chip/\(Qk .i64) x.Local/\True
theorem rd_74(n:Nat):RB prog n 74 Read Read.c Read.wf:=(QT (RB.struct underlying74 (by kernel_rfl) (Em (k:=1) rfl (by kernel_rfl) (RB.int underlying3) (Em (k:=1) rfl (by kernel_rfl) (RB.int underlying3) (Em (k:=1) rfl (by kernel_rfl) (RB.int underlying3) (Em (k:=1) rfl (by kernel_rfl) (RB.int underlying3) RF.nil))))) (λp=>⟨p.1,p.2.1,p.2.2.1,p.2.2.2.1⟩) Zf (λ_ h=>h)).down
def Beacon.wf(x:Beacon):Prop:=(Qk .i64) x.Mat/\(Qk .i64) x.Epoch/\(Qk .i64) x.Local/\(Qk .i64) x.True/\(Qk .i64) x.Err/\_root_.True
theorem rd_76(n:Nat):RB prog n 76 Beacon Beacon.c Beacon.wf:=(QT (RB.struct underlying76 (by kernel_rfl) (Em (k:=1) rfl (by kernel_rfl) (RB.int underlying3) (Em (k:=1) rfl (by kernel_rfl) (RB.int underlying3) (Em (k:=1) rfl (by kernel_rfl) (RB.int underlying3) (Em (k:=1) rfl (by kernel_rfl) (RB.int underlying3) (Em (k:=1) rfl (by kernel_rfl) (RB.int underlying3) RF.nil)))))) (λp=>⟨p.1,p.2.1,p.2.2.1,p.2.2.2.1,p.2.2.2.2.1⟩) Zf (λ_ h=>h)).down
def Sync.wf(x:Sync):Prop:=(Qk .i64) x.MatA/\(Qk .i64) x.EpochA/\(Qk .i64) x.LocalA/\(Qk .i64) x.MatB/\(Qk .i64) x.EpochB/\(Qk .i64) x.LocalB/\(Qk .i64) x.Min/\(Qk .i64) x.Max/\True
theorem rd_78(n:Nat):RB prog n 78 Sync Sync.c Sync.wf:=(QT (RB.struct underlying78 (by kernel_rfl) (Em (k:=1) rfl (by kernel_rfl) (RB.int underlying3) (Em (k:=1) rfl (by kernel_rfl) (RB.int underlying3) (Em (k:=1) rfl (by kernel_rfl) (RB.int underlying3) (Em (k:=1) rfl (by kernel_rfl) (RB.int underlying3) (Em (k:=1) rfl (by kernel_rfl) (RB.int underlying3) (Em (k:=1) rfl (by kernel_rfl) (RB.int underlying3) (Em (k:=1) rfl (by kernel_rfl) (RB.int underlying3) (Em (k:=1) rfl (by kernel_rfl) (RB.int underlying3) RF.nil))))))))) (λp=>⟨p.1,p.2.1,p.2.2.1,p.2.2.2.1,p.2.2.2.2.1,p.2.2.2.2.2.1,p.2.2.2.2.2.2.1,p.2.2.2.2.2.2.2.1⟩) Zf (λ_ h=>h)).down
def Hand.wf(x:Hand):Prop:=(Qk .i64) x.Bib/\(Qk .i64) x.Position/\(Qk .i64) x.Lo/\(Qk .i64) x.Hi/\True
theorem rd_80(n:Nat):RB prog n 80 Hand Hand.c Hand.wf:=(QT (RB.struct underlying80 (by kernel_rfl) (Em (k:=1) rfl (by kernel_rfl) (RB.int underlying3) (Em (k:=1) rfl (by kernel_rfl) (RB.int underlying3) (Em (k:=1) rfl (by kernel_rfl) (RB.int underlying3) (Em (k:=1) rfl (by kernel_rfl) (RB.int underlying3) RF.nil))))) (λp=>⟨p.1,p.2.1,p.2.2.1,p.2.2.2.1⟩) Zf (λ_ h=>h)).down
def Silence.wf(x:Silence):Prop:=(Qk .i64) x.Mat/\(Qk .i64) x.Epoch/\(Qk .i64) x.Lo/\(Qk .i64) x.Hi/\True
theorem rd_82(n:Nat):RB prog n 82 Silence Silence.c Silence.wf:=(QT (RB.struct underlying82 (by kernel_rfl) (Em (k:=1) rfl (by kernel_rfl) (RB.int underlying3) (Em (k:=1) rfl (by kernel_rfl) (RB.int underlying3) (Em (k:=1) rfl (by kernel_rfl) (RB.int underlying3) (Em (k:=1) rfl (by kernel_rfl) (RB.int underlying3) RF.nil))))) (λp=>⟨p.1,p.2.1,p.2.2.1,p.2.2.2.1⟩) Zf (λ_ h=>h)).down
def Pair.wf(x:Pair):Prop:=(Qk .i64) x.A/\(Qk .i64) x.B/\True
theorem rd_84(n:Nat):RB prog n 84 Pair Pair.c Pair.wf:=(QT (RB.struct underlying84 (by kernel_rfl) (Em (k:=1) rfl (by kernel_rfl) (RB.int underlying3) (Em (k:=1) rfl (by kernel_rfl) (RB.int underlying3) RF.nil))) (λp=>⟨p.1,p.2.1⟩) Zf (λ_ h=>h)).down
def Report.wf(x:Report):Prop:=(Qk .i64) x.Case/\(Qk .i64) x.Bib/\(Qk .i64) x.Offence/\(Qk .i64) x.Position/\True
theorem rd_86(n:Nat):RB prog n 86 Report Report.c Report.wf:=(QT (RB.struct underlying86 (by kernel_rfl) (Em (k:=1) rfl (by kernel_rfl) (RB.int underlying3) (Em (k:=1) rfl (by kernel_rfl) (RB.int underlying3) (Em (k:=1) rfl (by kernel_rfl) (RB.int underlying3) (Em (k:=1) rfl (by kernel_rfl) (RB.int underlying3) RF.nil))))) (λp=>⟨p.1,p.2.1,p.2.2.1,p.2.2.2.1⟩) Zf (λ_ h=>h)).down
def Protest.wf(x:Protest):Prop:=(Qk .i64) x.Case/\(Qk .i64) x.By/\(Qk .i64) x.Fee/\(Qk .i64) x.Form/\True
theorem rd_88(n:Nat):RB prog n 88 Protest Protest.c Protest.wf:=(QT (RB.struct underlying88 (by kernel_rfl) (Em (k:=1) rfl (by kernel_rfl) (RB.int underlying3) (Em (k:=1) rfl (by kernel_rfl) (RB.int underlying3) (Em (k:=1) rfl (by kernel_rfl) (RB.int underlying3) (Em (k:=1) rfl (by kernel_rfl) (RB.int underlying3) RF.nil))))) (λp=>⟨p.1,p.2.1,p.2.2.1,p.2.2.2.1⟩) Zf (λ_ h=>h)).down
def Ruling.wf(x:Ruling):Prop:=(Qk .i64) x.Case/\(Qk .i64) x.Instance/\(Qk .i64) x.Kind/\(Qk .i64) x.Bib/\(Qk .i64) x.Position/\(Qk .i64) x.Amount/\True
theorem rd_90(n:Nat):RB prog n 90 Ruling Ruling.c Ruling.wf:=(QT (RB.struct underlying90 (by kernel_rfl) (Em (k:=1) rfl (by kernel_rfl) (RB.int underlying3) (Em (k:=1) rfl (by kernel_rfl) (RB.int underlying3) (Em (k:=1) rfl (by kernel_rfl) (RB.int underlying3) (Em (k:=1) rfl (by kernel_rfl) (RB.int underlying3) (Em (k:=1) rfl (by kernel_rfl) (RB.int underlying3) (Em (k:=1) rfl (by kernel_rfl) (RB.int underlying3) RF.nil))))))) (λp=>⟨p.1,p.2.1,p.2.2.1,p.2.2.2.1,p.2.2.2.2.1,p.2.2.2.2.2.1⟩) Zf (λ_ h=>h)).down
def Appeal.wf(x:Appeal):Prop:=(Qk .i64) x.Case/\(λ_=>True) x.Suspends/\True
theorem rd_92(n:Nat):RB prog n 92 Appeal Appeal.c Appeal.wf:=(QT (RB.struct underlying92 (by kernel_rfl) (Em (k:=1) rfl (by kernel_rfl) (RB.int underlying3) (Em (k:=1) rfl (by kernel_rfl) (RB.bool underlying4) RF.nil))) (λp=>⟨p.1,p.2.1⟩) Zf (λ_ h=>h)).down
def Ref.wf(x:Ref):Prop:=(Qk .i64) x.Crew/\(Qk .i64) x.No/\True
theorem rd_94(n:Nat):RB prog n 94 Ref Ref.c Ref.wf:=(QT (RB.struct underlying94 (by kernel_rfl) (Em (k:=1) rfl (by kernel_rfl) (RB.int underlying3) (Em (k:=1) rfl (by kernel_rfl) (RB.int underlying3) RF.nil))) (λp=>⟨p.1,p.2.1⟩) Zf (λ_ h=>h)).down
def Fact.wf(x:Fact):Prop:=(Qk .i64) x.Crew/\(Qk .i64) x.No/\(Qk .i64) x.At/\(Qk .i64) x.Kind/\Starter.wf x.Starter/\Read.wf x.Read/\Beacon.wf x.Beacon/\Sync.wf x.Sync/\Hand.wf x.Hand/\Silence.wf x.Silence/\Pair.wf x.Pair/\Report.wf x.Report/\Protest.wf x.Protest/\Ruling.wf x.Ruling/\Appeal.wf x.Appeal/\Ref.wf x.Void/\True
theorem rd_96(n:Nat):RB prog n 96 Fact Fact.c Fact.wf:=(QT (RB.struct underlying96 (by kernel_rfl) (Em (k:=1) rfl (by kernel_rfl) (RB.int underlying3) (Em (k:=1) rfl (by kernel_rfl) (RB.int underlying3) (Em (k:=1) rfl (by kernel_rfl) (RB.int underlying3) (Em (k:=1) rfl (by kernel_rfl) (RB.int underlying3) (Em (k:=8) rfl (by kernel_rfl) (rd_72 n) (Em (k:=4) rfl (by kernel_rfl) (rd_74 n) (Em (k:=5) rfl (by kernel_rfl) (rd_76 n) (Em (k:=8) rfl (by kernel_rfl) (rd_78 n) (Em (k:=4) rfl (by kernel_rfl) (rd_80 n) (Em (k:=4) rfl (by kernel_rfl) (rd_82 n) (Em (k:=2) rfl (by kernel_rfl) (rd_84 n) (Em (k:=4) rfl (by kernel_rfl) (rd_86 n) (Em (k:=4) rfl (by kernel_rfl) (rd_88 n) (Em (k:=6) rfl (by kernel_rfl) (rd_90 n) (Em (k:=2) rfl (by kernel_rfl) (rd_92 n) (Em (k:=2) rfl (by kernel_rfl) (rd_94 n) RF.nil))))))))))))))))) (λp=>⟨p.1,p.2.1,p.2.2.1,p.2.2.2.1,p.2.2.2.2.1,p.2.2.2.2.2.1,p.2.2.2.2.2.2.1,p.2.2.2.2.2.2.2.1,p.2.2.2.2.2.2.2.2.1,p.2.2.2.2.2.2.2.2.2.1,p.2.2.2.2.2.2.2.2.2.2.1,p.2.2.2.2.2.2.2.2.2.2.2.1,p.2.2.2.2.2.2.2.2.2.2.2.2.1,p.2.2.2.2.2.2.2.2.2.2.2.2.2.1,p.2.2.2.2.2.2.2.2.2.2.2.2.2.2.1,p.2.2.2.2.2.2.2.2.2.2.2.2.2.2.2.1⟩) Zf (λ_ h=>h)).down
end Go.Sw
