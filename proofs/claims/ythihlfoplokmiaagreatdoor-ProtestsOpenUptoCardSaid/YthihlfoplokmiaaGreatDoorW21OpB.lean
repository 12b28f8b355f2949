/- How the arguments of ProtestsOpen are read. -/
import Derived.Test.YthihlfoplokmiaaGreatDoorW21OpA
set_option linter.unusedVariables false
set_option linter.unusedSimpArgs false
set_option maxRecDepth 100000
set_option maxHeartbeats 4000000
namespace Go.Sw
open Go.Proofs Tryz
def Mat.wf(x:Mat):Prop:=(λs=>s.length<=1048576) x.Name/\(Qi .i64) x.Kind/\True
theorem rd_88(n:Nat):RB prog n 88 Mat Mat.c Mat.wf:=(QX (RB.struct underlying88 (by kernel_rfl) (El (k:=1) rfl (by kernel_rfl) (RB.string underlying9) (El (k:=1) rfl (by kernel_rfl) (RB.int underlying3) RF.nil))) (λp=>⟨p.1,p.2.1⟩) Zf (λ_ h=>h)).down
def Leg.wf(x:Leg):Prop:=(Qi .i64) x.From/\(Qi .i64) x.To/\(Qi .i64) x.Min/\(Qi .i64) x.Max/\True
theorem QoS(n:Nat):RB prog n 131 Leg Leg.c Leg.wf:=(QX (RB.struct underlying131 (by kernel_rfl) (El (k:=1) rfl (by kernel_rfl) (RB.int underlying3) (El (k:=1) rfl (by kernel_rfl) (RB.int underlying3) (El (k:=1) rfl (by kernel_rfl) (RB.int underlying3) (El (k:=1) rfl (by kernel_rfl) (RB.int underlying3) RF.nil))))) (λp=>⟨p.1,p.2.1,p.2.2.1,p.2.2.2.1⟩) Zf (λ_ h=>h)).down
mutual
def Part.wf:Part->Prop
  |⟨x0,x1,x2⟩=>((Qi .i64) x0)/\((Qi .i64) x1)/\(x2.length<=1048576/\Part.wfs x2)/\True
def Part.wfs:List Part->Prop
  |[]=>True
  |x::l=>Part.wf x/\Part.wfs l
end
theorem Qdb(l:List Part):Part.wfs l↔ ∀x∈l,Part.wf x:=by
  induction l with
  |nil=>simp[Part.wfs]
  |cons x l ih=>simp[Part.wfs,ih]
theorem QoT:∀n,RB prog n 129 Part Part.enc Part.wf:=Qer (λn ih=>QX (RB.struct underlying129 (by kernel_rfl) (El (k:=1) rfl (by kernel_rfl) (RB.int underlying3) (El (k:=1) rfl (by kernel_rfl) (RB.int underlying3) (El (k:=1) rfl (by kernel_rfl) (RB.slice (k:=3) underlying83 (by kernel_rfl) rfl (λx=>by rw[Jo];rfl) ih).down RF.nil)))) (λp=>⟨p.1,p.2.1,p.2.2.1⟩) (λp=>by simp[Part.enc,Qdc,Qj,Qa6,encS,Qjs]) (λp h=>by simpa[Part.wf,Qdb]using h))
def Cutoff.wf(x:Cutoff):Prop:=(Qi .i64) x.Mat/\(Qi .i64) x.Lap/\(Qi .i64) x.Limit/\True
theorem QoL(n:Nat):RB prog n 200 Cutoff Cutoff.c Cutoff.wf:=(QX (RB.struct underlying200 (by kernel_rfl) (El (k:=1) rfl (by kernel_rfl) (RB.int underlying3) (El (k:=1) rfl (by kernel_rfl) (RB.int underlying3) (El (k:=1) rfl (by kernel_rfl) (RB.int underlying3) RF.nil)))) (λp=>⟨p.1,p.2.1,p.2.2.1⟩) Zf (λ_ h=>h)).down
def Distance.wf(x:Distance):Prop:=(λs=>s.length<=1048576) x.Name/\(λl=>l.length<=1048576/\ ∀x∈l,Part.wf x) x.Route/\(Qi .i64) x.Timing/\(λl=>l.length<=1048576/\ ∀x∈l,Cutoff.wf x) x.Cutoffs/\(Qi .i64) x.Extra/\True
theorem rd_86(n:Nat):RB prog n 86 Distance Distance.c Distance.wf:=(QX (RB.struct underlying86 (by kernel_rfl) (El (k:=1) rfl (by kernel_rfl) (RB.string underlying9) (El (k:=1) rfl (by kernel_rfl) (RB.slice (k:=3) underlying83 (by kernel_rfl) rfl (λx=>by rw[Jo];rfl) (QoT n)).down (El (k:=1) rfl (by kernel_rfl) (RB.int underlying3) (El (k:=1) rfl (by kernel_rfl) (RB.slice (k:=3) underlying84 (by kernel_rfl) rfl Zf (QoL n)).down (El (k:=1) rfl (by kernel_rfl) (RB.int underlying3) RF.nil)))))) (λp=>⟨p.1,p.2.1,p.2.2.1,p.2.2.2.1,p.2.2.2.2.1⟩) Zf (λ_ h=>h)).down
def Wave.wf(x:Wave):Prop:=(λs=>s.length<=1048576) x.Name/\(Qi .i64) x.Gun/\True
theorem QoR(n:Nat):RB prog n 133 Wave Wave.c Wave.wf:=(QX (RB.struct underlying133 (by kernel_rfl) (El (k:=1) rfl (by kernel_rfl) (RB.string underlying9) (El (k:=1) rfl (by kernel_rfl) (RB.int underlying3) RF.nil))) (λp=>⟨p.1,p.2.1⟩) Zf (λ_ h=>h)).down
def Offence.wf(x:Offence):Prop:=(λs=>s.length<=1048576) x.Name/\(Qi .i64) x.Time/\(Qi .i64) x.Laps/\(λ_=>True) x.Out/\True
theorem QoO(n:Nat):RB prog n 185 Offence Offence.c Offence.wf:=(QX (RB.struct underlying185 (by kernel_rfl) (El (k:=1) rfl (by kernel_rfl) (RB.string underlying9) (El (k:=1) rfl (by kernel_rfl) (RB.int underlying3) (El (k:=1) rfl (by kernel_rfl) (RB.int underlying3) (El (k:=1) rfl (by kernel_rfl) (RB.bool underlying4) RF.nil))))) (λp=>⟨p.1,p.2.1,p.2.2.1,p.2.2.2.1⟩) Zf (λ_ h=>h)).down
def Category.wf(x:Category):Prop:=(λs=>s.length<=1048576) x.Name/\(Qi .i64) x.From/\(Qi .i64) x.To/\True
theorem QoN(n:Nat):RB prog n 187 Category Category.c Category.wf:=(QX (RB.struct underlying187 (by kernel_rfl) (El (k:=1) rfl (by kernel_rfl) (RB.string underlying9) (El (k:=1) rfl (by kernel_rfl) (RB.int underlying3) (El (k:=1) rfl (by kernel_rfl) (RB.int underlying3) RF.nil)))) (λp=>⟨p.1,p.2.1,p.2.2.1⟩) Zf (λ_ h=>h)).down
def Prize.wf(x:Prize):Prop:=(Qi .i64) x.Distance/\(Qi .i64) x.Category/\(Qi .i64) x.Rank/\(Qi .i64) x.Amount/\True
theorem QoM(n:Nat):RB prog n 192 Prize Prize.c Prize.wf:=(QX (RB.struct underlying192 (by kernel_rfl) (El (k:=1) rfl (by kernel_rfl) (RB.int underlying3) (El (k:=1) rfl (by kernel_rfl) (RB.int underlying3) (El (k:=1) rfl (by kernel_rfl) (RB.int underlying3) (El (k:=1) rfl (by kernel_rfl) (RB.int underlying3) RF.nil))))) (λp=>⟨p.1,p.2.1,p.2.2.1,p.2.2.2.1⟩) Zf (λ_ h=>h)).down
mutual
def Cond.wf:Cond->Prop
  |⟨x0,x1,x2,x3⟩=>((Qi .i64) x0)/\((Qi .i64) x1)/\((Qi .i64) x2)/\(x3.length<=1048576/\Cond.wfs x3)/\True
def Cond.wfs:List Cond->Prop
  |[]=>True
  |x::l=>Cond.wf x/\Cond.wfs l
end
theorem Qde(l:List Cond):Cond.wfs l↔ ∀x∈l,Cond.wf x:=by
  induction l with
  |nil=>simp[Cond.wfs]
  |cons x l ih=>simp[Cond.wfs,ih]
theorem QoQ:∀n,RB prog n 136 Cond Cond.enc Cond.wf:=Qer (λn ih=>QX (RB.struct underlying136 (by kernel_rfl) (El (k:=1) rfl (by kernel_rfl) (RB.int underlying3) (El (k:=1) rfl (by kernel_rfl) (RB.int underlying3) (El (k:=1) rfl (by kernel_rfl) (RB.int underlying3) (El (k:=1) rfl (by kernel_rfl) (RB.slice (k:=4) underlying134 (by kernel_rfl) rfl (λx=>by rw[Qav];rfl) ih).down RF.nil))))) (λp=>⟨p.1,p.2.1,p.2.2.1,p.2.2.2.1⟩) (λp=>by simp[Cond.enc,Qdf,Qj,Qa6,encS,Qjs]) (λp h=>by simpa[Cond.wf,Qde]using h))
mutual
def Step.wf:Step->Prop
  |⟨x0,x1,x2,x3,x4⟩=>((Qi .i64) x0)/\((Qi .i64) x1)/\(Cond.wf x2)/\(x3.length<=1048576/\Step.wfs x3)/\(x4.length<=1048576/\Step.wfs x4)/\True
def Step.wfs:List Step->Prop
  |[]=>True
  |x::l=>Step.wf x/\Step.wfs l
end
theorem Qc4(l:List Step):Step.wfs l↔ ∀x∈l,Step.wf x:=by
  induction l with
  |nil=>simp[Step.wfs]
  |cons x l ih=>simp[Step.wfs,ih]
theorem QoP:∀n,RB prog n 138 Step Step.enc Step.wf:=Qer (λn ih=>QX (RB.struct underlying138 (by kernel_rfl) (El (k:=1) rfl (by kernel_rfl) (RB.int underlying3) (El (k:=1) rfl (by kernel_rfl) (RB.int underlying3) (El (k:=4) rfl (by kernel_rfl) (QoQ n) (El (k:=1) rfl (by kernel_rfl) (RB.slice (k:=8) underlying29 (by kernel_rfl) rfl (λx=>by rw[YZ];rfl) ih).down (El (k:=1) rfl (by kernel_rfl) (RB.slice (k:=8) underlying29 (by kernel_rfl) rfl (λx=>by rw[YZ];rfl) ih).down RF.nil)))))) (λp=>⟨p.1,p.2.1,p.2.2.1,p.2.2.2.1,p.2.2.2.2.1⟩) (λp=>by simp[Step.enc,Qc5,Qj,Qa6,encS,Qjs,Qav,Cond.c]) (λp h=>by simpa[Step.wf,Qc4]using h))
def Faults.wf(x:Faults):Prop:=(Qi .i64) x.Misses/\(Qi .i64) x.Strays/\(Qi .i64) x.Window/\(Qi .i64) x.Residual/\(Qi .i64) x.Drift/\True
theorem rd_31(n:Nat):RB prog n 31 Faults Faults.c Faults.wf:=(QX (RB.struct underlying31 (by kernel_rfl) (El (k:=1) rfl (by kernel_rfl) (RB.int underlying3) (El (k:=1) rfl (by kernel_rfl) (RB.int underlying3) (El (k:=1) rfl (by kernel_rfl) (RB.int underlying3) (El (k:=1) rfl (by kernel_rfl) (RB.int underlying3) (El (k:=1) rfl (by kernel_rfl) (RB.int underlying3) RF.nil)))))) (λp=>⟨p.1,p.2.1,p.2.2.1,p.2.2.2.1,p.2.2.2.2.1⟩) Zf (λ_ h=>h)).down
def Course.wf(x:Course):Prop:=(λs=>s.length<=1048576) x.Name/\(λl=>l.length<=1048576/\ ∀x∈l,Mat.wf x) x.Mats/\(λl=>l.length<=1048576/\ ∀x∈l,Leg.wf x) x.Legs/\(λl=>l.length<=1048576/\ ∀x∈l,Distance.wf x) x.Distances/\(λl=>l.length<=1048576/\ ∀x∈l,Wave.wf x) x.Waves/\(λl=>l.length<=1048576/\ ∀x∈l,Offence.wf x) x.Offences/\(λl=>l.length<=1048576/\ ∀x∈l,Category.wf x) x.Categories/\(λl=>l.length<=1048576/\ ∀x∈l,Prize.wf x) x.Prizes/\(λl=>l.length<=1048576/\ ∀x∈l,Step.wf x) x.Ties/\Faults.wf x.Faults/\(Qi .i64) x.Fee/\(Qi .i64) x.Deadline/\True
theorem rd_33(n:Nat):RB prog n 33 Course Course.c Course.wf:=(QX (RB.struct underlying33 (by kernel_rfl) (El (k:=1) rfl (by kernel_rfl) (RB.string underlying9) (El (k:=1) rfl (by kernel_rfl) (RB.slice (k:=2) underlying22 (by kernel_rfl) rfl Zf (rd_88 n)).down (El (k:=1) rfl (by kernel_rfl) (RB.slice (k:=4) underlying23 (by kernel_rfl) rfl Zf (QoS n)).down (El (k:=1) rfl (by kernel_rfl) (RB.slice (k:=5) underlying24 (by kernel_rfl) rfl Zf (rd_86 n)).down (El (k:=1) rfl (by kernel_rfl) (RB.slice (k:=2) underlying25 (by kernel_rfl) rfl Zf (QoR n)).down (El (k:=1) rfl (by kernel_rfl) (RB.slice (k:=4) underlying26 (by kernel_rfl) rfl Zf (QoO n)).down (El (k:=1) rfl (by kernel_rfl) (RB.slice (k:=3) underlying27 (by kernel_rfl) rfl Zf (QoN n)).down (El (k:=1) rfl (by kernel_rfl) (RB.slice (k:=4) underlying28 (by kernel_rfl) rfl Zf (QoM n)).down (El (k:=1) rfl (by kernel_rfl) (RB.slice (k:=8) underlying29 (by kernel_rfl) rfl (λx=>by rw[YZ];rfl) (QoP n)).down (El (k:=5) rfl (by kernel_rfl) (rd_31 n) (El (k:=1) rfl (by kernel_rfl) (RB.int underlying3) (El (k:=1) rfl (by kernel_rfl) (RB.int underlying3) RF.nil))))))))))))) (λp=>⟨p.1,p.2.1,p.2.2.1,p.2.2.2.1,p.2.2.2.2.1,p.2.2.2.2.2.1,p.2.2.2.2.2.2.1,p.2.2.2.2.2.2.2.1,p.2.2.2.2.2.2.2.2.1,p.2.2.2.2.2.2.2.2.2.1,p.2.2.2.2.2.2.2.2.2.2.1,p.2.2.2.2.2.2.2.2.2.2.2.1⟩) Zf (λ_ h=>h)).down
def Starter.wf(x:Starter):Prop:=(Qi .i64) x.Bib/\(Qi .i64) x.Distance/\(Qi .i64) x.Wave/\(Qi .i64) x.Slot/\(Qi .i64) x.Age/\(Qi .i64) x.Chip/\(Qi .i64) x.Team/\(Qi .i64) x.Lot/\True
theorem rd_46(n:Nat):RB prog n 46 Starter Starter.c Starter.wf:=(QX (RB.struct underlying46 (by kernel_rfl) (El (k:=1) rfl (by kernel_rfl) (RB.int underlying3) (El (k:=1) rfl (by kernel_rfl) (RB.int underlying3) (El (k:=1) rfl (by kernel_rfl) (RB.int underlying3) (El (k:=1) rfl (by kernel_rfl) (RB.int underlying3) (El (k:=1) rfl (by kernel_rfl) (RB.int underlying3) (El (k:=1) rfl (by kernel_rfl) (RB.int underlying3) (El (k:=1) rfl (by kernel_rfl) (RB.int underlying3) (El (k:=1) rfl (by kernel_rfl) (RB.int underlying3) RF.nil))))))))) (λp=>⟨p.1,p.2.1,p.2.2.1,p.2.2.2.1,p.2.2.2.2.1,p.2.2.2.2.2.1,p.2.2.2.2.2.2.1,p.2.2.2.2.2.2.2.1⟩) Zf (λ_ h=>h)).down
def Read.wf(x:Read):Prop:=(Qi .i64) x.Mat/\(Qi .i64) x.Epoch/\(Qi .i64) x.Chip/\(Qi .i64) x.Local/\True
theorem rd_48(n:Nat):RB prog n 48 Read Read.c Read.wf:=(QX (RB.struct underlying48 (by kernel_rfl) (El (k:=1) rfl (by kernel_rfl) (RB.int underlying3) (El (k:=1) rfl (by kernel_rfl) (RB.int underlying3) (El (k:=1) rfl (by kernel_rfl) (RB.int underlying3) (El (k:=1) rfl (by kernel_rfl) (RB.int underlying3) RF.nil))))) (λp=>⟨p.1,p.2.1,p.2.2.1,p.2.2.2.1⟩) Zf (λ_ h=>h)).down
def Beacon.wf(x:Beacon):Prop:=(Qi .i64) x.Mat/\(Qi .i64) x.Epoch/\(Qi .i64) x.Local/\(Qi .i64) x.True/\(Qi .i64) x.Err/\_root_.True
theorem rd_50(n:Nat):RB prog n 50 Beacon Beacon.c Beacon.wf:=(QX (RB.struct underlying50 (by kernel_rfl) (El (k:=1) rfl (by kernel_rfl) (RB.int underlying3) (El (k:=1) rfl (by kernel_rfl) (RB.int underlying3) (El (k:=1) rfl (by kernel_rfl) (RB.int underlying3) (El (k:=1) rfl (by kernel_rfl) (RB.int underlying3) (El (k:=1) rfl (by kernel_rfl) (RB.int underlying3) RF.nil)))))) (λp=>⟨p.1,p.2.1,p.2.2.1,p.2.2.2.1,p.2.2.2.2.1⟩) Zf (λ_ h=>h)).down
def Sync.wf(x:Sync):Prop:=(Qi .i64) x.MatA/\(Qi .i64) x.EpochA/\(Qi .i64) x.LocalA/\(Qi .i64) x.MatB/\(Qi .i64) x.EpochB/\(Qi .i64) x.LocalB/\(Qi .i64) x.Min/\(Qi .i64) x.Max/\True
theorem rd_52(n:Nat):RB prog n 52 Sync Sync.c Sync.wf:=(QX (RB.struct underlying52 (by kernel_rfl) (El (k:=1) rfl (by kernel_rfl) (RB.int underlying3) (El (k:=1) rfl (by kernel_rfl) (RB.int underlying3) (El (k:=1) rfl (by kernel_rfl) (RB.int underlying3) (El (k:=1) rfl (by kernel_rfl) (RB.int underlying3) (El (k:=1) rfl (by kernel_rfl) (RB.int underlying3) (El (k:=1) rfl (by kernel_rfl) (RB.int underlying3) (El (k:=1) rfl (by kernel_rfl) (RB.int underlying3) (El (k:=1) rfl (by kernel_rfl) (RB.int underlying3) RF.nil))))))))) (λp=>⟨p.1,p.2.1,p.2.2.1,p.2.2.2.1,p.2.2.2.2.1,p.2.2.2.2.2.1,p.2.2.2.2.2.2.1,p.2.2.2.2.2.2.2.1⟩) Zf (λ_ h=>h)).down
def Hand.wf(x:Hand):Prop:=(Qi .i64) x.Bib/\(Qi .i64) x.Position/\(Qi .i64) x.Lo/\(Qi .i64) x.Hi/\True
theorem rd_54(n:Nat):RB prog n 54 Hand Hand.c Hand.wf:=(QX (RB.struct underlying54 (by kernel_rfl) (El (k:=1) rfl (by kernel_rfl) (RB.int underlying3) (El (k:=1) rfl (by kernel_rfl) (RB.int underlying3) (El (k:=1) rfl (by kernel_rfl) (RB.int underlying3) (El (k:=1) rfl (by kernel_rfl) (RB.int underlying3) RF.nil))))) (λp=>⟨p.1,p.2.1,p.2.2.1,p.2.2.2.1⟩) Zf (λ_ h=>h)).down
def Silence.wf(x:Silence):Prop:=(Qi .i64) x.Mat/\(Qi .i64) x.Epoch/\(Qi .i64) x.Lo/\(Qi .i64) x.Hi/\True
theorem rd_56(n:Nat):RB prog n 56 Silence Silence.c Silence.wf:=(QX (RB.struct underlying56 (by kernel_rfl) (El (k:=1) rfl (by kernel_rfl) (RB.int underlying3) (El (k:=1) rfl (by kernel_rfl) (RB.int underlying3) (El (k:=1) rfl (by kernel_rfl) (RB.int underlying3) (El (k:=1) rfl (by kernel_rfl) (RB.int underlying3) RF.nil))))) (λp=>⟨p.1,p.2.1,p.2.2.1,p.2.2.2.1⟩) Zf (λ_ h=>h)).down
def Pair.wf(x:Pair):Prop:=(Qi .i64) x.A/\(Qi .i64) x.B/\True
theorem rd_58(n:Nat):RB prog n 58 Pair Pair.c Pair.wf:=(QX (RB.struct underlying58 (by kernel_rfl) (El (k:=1) rfl (by kernel_rfl) (RB.int underlying3) (El (k:=1) rfl (by kernel_rfl) (RB.int underlying3) RF.nil))) (λp=>⟨p.1,p.2.1⟩) Zf (λ_ h=>h)).down
def Report.wf(x:Report):Prop:=(Qi .i64) x.Case/\(Qi .i64) x.Bib/\(Qi .i64) x.Offence/\(Qi .i64) x.Position/\True
theorem rd_60(n:Nat):RB prog n 60 Report Report.c Report.wf:=(QX (RB.struct underlying60 (by kernel_rfl) (El (k:=1) rfl (by kernel_rfl) (RB.int underlying3) (El (k:=1) rfl (by kernel_rfl) (RB.int underlying3) (El (k:=1) rfl (by kernel_rfl) (RB.int underlying3) (El (k:=1) rfl (by kernel_rfl) (RB.int underlying3) RF.nil))))) (λp=>⟨p.1,p.2.1,p.2.2.1,p.2.2.2.1⟩) Zf (λ_ h=>h)).down
def Protest.wf(x:Protest):Prop:=(Qi .i64) x.Case/\(Qi .i64) x.By/\(Qi .i64) x.Fee/\(Qi .i64) x.Form/\True
theorem rd_36(n:Nat):RB prog n 36 Protest Protest.c Protest.wf:=(QX (RB.struct underlying36 (by kernel_rfl) (El (k:=1) rfl (by kernel_rfl) (RB.int underlying3) (El (k:=1) rfl (by kernel_rfl) (RB.int underlying3) (El (k:=1) rfl (by kernel_rfl) (RB.int underlying3) (El (k:=1) rfl (by kernel_rfl) (RB.int underlying3) RF.nil))))) (λp=>⟨p.1,p.2.1,p.2.2.1,p.2.2.2.1⟩) Zf (λ_ h=>h)).down
def Ruling.wf(x:Ruling):Prop:=(Qi .i64) x.Case/\(Qi .i64) x.Instance/\(Qi .i64) x.Kind/\(Qi .i64) x.Bib/\(Qi .i64) x.Position/\(Qi .i64) x.Amount/\True
theorem rd_62(n:Nat):RB prog n 62 Ruling Ruling.c Ruling.wf:=(QX (RB.struct underlying62 (by kernel_rfl) (El (k:=1) rfl (by kernel_rfl) (RB.int underlying3) (El (k:=1) rfl (by kernel_rfl) (RB.int underlying3) (El (k:=1) rfl (by kernel_rfl) (RB.int underlying3) (El (k:=1) rfl (by kernel_rfl) (RB.int underlying3) (El (k:=1) rfl (by kernel_rfl) (RB.int underlying3) (El (k:=1) rfl (by kernel_rfl) (RB.int underlying3) RF.nil))))))) (λp=>⟨p.1,p.2.1,p.2.2.1,p.2.2.2.1,p.2.2.2.2.1,p.2.2.2.2.2.1⟩) Zf (λ_ h=>h)).down
def Appeal.wf(x:Appeal):Prop:=(Qi .i64) x.Case/\(λ_=>True) x.Suspends/\True
theorem rd_64(n:Nat):RB prog n 64 Appeal Appeal.c Appeal.wf:=(QX (RB.struct underlying64 (by kernel_rfl) (El (k:=1) rfl (by kernel_rfl) (RB.int underlying3) (El (k:=1) rfl (by kernel_rfl) (RB.bool underlying4) RF.nil))) (λp=>⟨p.1,p.2.1⟩) Zf (λ_ h=>h)).down
def Ref.wf(x:Ref):Prop:=(Qi .i64) x.Crew/\(Qi .i64) x.No/\True
theorem rd_66(n:Nat):RB prog n 66 Ref Ref.c Ref.wf:=(QX (RB.struct underlying66 (by kernel_rfl) (El (k:=1) rfl (by kernel_rfl) (RB.int underlying3) (El (k:=1) rfl (by kernel_rfl) (RB.int underlying3) RF.nil))) (λp=>⟨p.1,p.2.1⟩) Zf (λ_ h=>h)).down
def Fact.wf(x:Fact):Prop:=(Qi .i64) x.Crew/\(Qi .i64) x.No/\(Qi .i64) x.At/\(Qi .i64) x.Kind/\Starter.wf x.Starter/\Read.wf x.Read/\Beacon.wf x.Beacon/\Sync.wf x.Sync/\Hand.wf x.Hand/\Silence.wf x.Silence/\Pair.wf x.Pair/\Report.wf x.Report/\Protest.wf x.Protest/\Ruling.wf x.Ruling/\Appeal.wf x.Appeal/\Ref.wf x.Void/\True
theorem rd_68(n:Nat):RB prog n 68 Fact Fact.c Fact.wf:=(QX (RB.struct underlying68 (by kernel_rfl) (El (k:=1) rfl (by kernel_rfl) (RB.int underlying3) (El (k:=1) rfl (by kernel_rfl) (RB.int underlying3) (El (k:=1) rfl (by kernel_rfl) (RB.int underlying3) (El (k:=1) rfl (by kernel_rfl) (RB.int underlying3) (El (k:=8) rfl (by kernel_rfl) (rd_46 n) (El (k:=4) rfl (by kernel_rfl) (rd_48 n) (El (k:=5) rfl (by kernel_rfl) (rd_50 n) (El (k:=8) rfl (by kernel_rfl) (rd_52 n) (El (k:=4) rfl (by kernel_rfl) (rd_54 n) (El (k:=4) rfl (by kernel_rfl) (rd_56 n) (El (k:=2) rfl (by kernel_rfl) (rd_58 n) (El (k:=4) rfl (by kernel_rfl) (rd_60 n) (El (k:=4) rfl (by kernel_rfl) (rd_36 n) (El (k:=6) rfl (by kernel_rfl) (rd_62 n) (El (k:=2) rfl (by kernel_rfl) (rd_64 n) (El (k:=2) rfl (by kernel_rfl) (rd_66 n) RF.nil))))))))))))))))) (λp=>⟨p.1,p.2.1,p.2.2.1,p.2.2.2.1,p.2.2.2.2.1,p.2.2.2.2.2.1,p.2.2.2.2.2.2.1,p.2.2.2.2.2.2.2.1,p.2.2.2.2.2.2.2.2.1,p.2.2.2.2.2.2.2.2.2.1,p.2.2.2.2.2.2.2.2.2.2.1,p.2.2.2.2.2.2.2.2.2.2.2.1,p.2.2.2.2.2.2.2.2.2.2.2.2.1,p.2.2.2.2.2.2.2.2.2.2.2.2.2.1,p.2.2.2.2.2.2.2.2.2.2.2.2.2.2.1,p.2.2.2.2.2.2.2.2.2.2.2.2.2.2.2.1⟩) Zf (λ_ h=>h)).down
end Go.Sw
