/- How the arguments of PenaltiesCasesSpec are read. -/
import Derived.Test.YtdlojdpflfdgcaaGreatDoorW22CsA
set_option linter.unusedVariables false
set_option linter.unusedSimpArgs false
set_option maxRecDepth 100000
set_option maxHeartbeats 4000000
namespace Go.Sw
variable (n:Nat)
open Go.Proofs Tryz
def Mat.wf(x:Mat):Prop:=(λs=>s.length<=1048576) x.Name/\(Qq .i64) x.Kind/\True
theorem Qqu:RB prog n 116 Mat Mat.c Mat.wf:=(Q3 (RB.struct underlying116 (by kernel_rfl) (Em (RB.string Gi) (Em QJ RF.nil))) (λp=>⟨p.1,p.2.1⟩) Zf (λ_ h=>h)).down
def Leg.wf(x:Leg):Prop:=(Qq .i64) x.From/\(Qq .i64) x.To/\(Qq .i64) x.Min/\(Qq .i64) x.Max/\True
theorem Qqt:RB prog n 118 Leg Leg.c Leg.wf:=(Q3 (RB.struct underlying118 (by kernel_rfl) (Em QJ (Em QJ (Em QJ (Em QJ RF.nil))))) (λp=>⟨p.1,p.2.1,p.2.2.1,p.2.2.2.1⟩) Zf (λ_ h=>h)).down
mutual
def Part.wf:Part->Prop
  |⟨x0,x1,x2⟩=>((Qq .i64) x0)/\((Qq .i64) x1)/\(x2.length<=1048576/\Part.wfs x2)/\True
def Part.wfs:List Part->Prop
  |[]=>True
  |x::l=>Part.wf x/\Part.wfs l
end
theorem QdD(l:List Part):Part.wfs l↔ ∀x∈l,Part.wf x:=by
  induction l with
  |nil=>simp[Part.wfs]
  |cons x l ih=>simp[Part.wfs,ih]
theorem Qqs:∀n,RB prog n 120 Part Part.enc Part.wf:=Qe2 (λn ih=>Q3 (RB.struct underlying120 (by kernel_rfl) (Em QJ (Em QJ (Em (RB.slice (k:=3) underlying97 (by kernel_rfl) rfl (λx=>by rw[Q4];rfl) ih).down RF.nil)))) (λp=>⟨p.1,p.2.1,p.2.2.1⟩) (λp=>by simp[Part.enc,QdE,Qe,Qa8,JO,QoH]) (λp h=>by simpa[Part.wf,QdD]using h))
def Cutoff.wf(x:Cutoff):Prop:=(Qq .i64) x.Mat/\(Qq .i64) x.Lap/\(Qq .i64) x.Limit/\True
theorem Qqq:RB prog n 193 Cutoff Cutoff.c Cutoff.wf:=(Q3 (RB.struct underlying193 (by kernel_rfl) (Em QJ (Em QJ (Em QJ RF.nil)))) (λp=>⟨p.1,p.2.1,p.2.2.1⟩) Zf (λ_ h=>h)).down
def Distance.wf(x:Distance):Prop:=(λs=>s.length<=1048576) x.Name/\(λl=>l.length<=1048576/\ ∀x∈l,Part.wf x) x.Route/\(Qq .i64) x.Timing/\(λl=>l.length<=1048576/\ ∀x∈l,Cutoff.wf x) x.Cutoffs/\(Qq .i64) x.Extra/\True
theorem Qqz:RB prog n 100 Distance Distance.c Distance.wf:=(Q3 (RB.struct underlying100 (by kernel_rfl) (Em (RB.string Gi) (Em (RB.slice (k:=3) underlying97 (by kernel_rfl) rfl (λx=>by rw[Q4];rfl) (Qqs n)).down (Em QJ (Em (RB.slice (k:=3) underlying98 (by kernel_rfl) rfl Zf (Qqq n)).down (Em QJ RF.nil)))))) (λp=>⟨p.1,p.2.1,p.2.2.1,p.2.2.2.1,p.2.2.2.2.1⟩) Zf (λ_ h=>h)).down
def Wave.wf(x:Wave):Prop:=(λs=>s.length<=1048576) x.Name/\(Qq .i64) x.Gun/\True
theorem Qqw:RB prog n 112 Wave Wave.c Wave.wf:=(Q3 (RB.struct underlying112 (by kernel_rfl) (Em (RB.string Gi) (Em QJ RF.nil))) (λp=>⟨p.1,p.2.1⟩) Zf (λ_ h=>h)).down
def Offence.wf(x:Offence):Prop:=(λs=>s.length<=1048576) x.Name/\(Qq .i64) x.Time/\(Qq .i64) x.Laps/\(λ_=>True) x.Out/\True
theorem Qqv:RB prog n 114 Offence Offence.c Offence.wf:=(Q3 (RB.struct underlying114 (by kernel_rfl) (Em (RB.string Gi) (Em QJ (Em QJ (Em (RB.bool underlying4) RF.nil))))) (λp=>⟨p.1,p.2.1,p.2.2.1,p.2.2.2.1⟩) Zf (λ_ h=>h)).down
def Category.wf(x:Category):Prop:=(λs=>s.length<=1048576) x.Name/\(Qq .i64) x.From/\(Qq .i64) x.To/\True
theorem Qqr:RB prog n 187 Category Category.c Category.wf:=(Q3 (RB.struct underlying187 (by kernel_rfl) (Em (RB.string Gi) (Em QJ (Em QJ RF.nil)))) (λp=>⟨p.1,p.2.1,p.2.2.1⟩) Zf (λ_ h=>h)).down
def Prize.wf(x:Prize):Prop:=(Qq .i64) x.Distance/\(Qq .i64) x.Category/\(Qq .i64) x.Rank/\(Qq .i64) x.Amount/\True
theorem Qqp:RB prog n 199 Prize Prize.c Prize.wf:=(Q3 (RB.struct underlying199 (by kernel_rfl) (Em QJ (Em QJ (Em QJ (Em QJ RF.nil))))) (λp=>⟨p.1,p.2.1,p.2.2.1,p.2.2.2.1⟩) Zf (λ_ h=>h)).down
mutual
def Cond.wf:Cond->Prop
  |⟨x0,x1,x2,x3⟩=>((Qq .i64) x0)/\((Qq .i64) x1)/\((Qq .i64) x2)/\(x3.length<=1048576/\Cond.wfs x3)/\True
def Cond.wfs:List Cond->Prop
  |[]=>True
  |x::l=>Cond.wf x/\Cond.wfs l
end
theorem QdG(l:List Cond):Cond.wfs l↔ ∀x∈l,Cond.wf x:=by
  induction l with
  |nil=>simp[Cond.wfs]
  |cons x l ih=>simp[Cond.wfs,ih]
theorem Qqy:∀n,RB prog n 108 Cond Cond.enc Cond.wf:=Qe2 (λn ih=>Q3 (RB.struct underlying108 (by kernel_rfl) (Em QJ (Em QJ (Em QJ (Em (RB.slice (k:=4) underlying106 (by kernel_rfl) rfl (λx=>by rw[Qap];rfl) ih).down RF.nil))))) (λp=>⟨p.1,p.2.1,p.2.2.1,p.2.2.2.1⟩) (λp=>by simp[Cond.enc,QdH,Qe,Qa8,JO,QoH]) (λp h=>by simpa[Cond.wf,QdG]using h))
mutual
def Step.wf:Step->Prop
  |⟨x0,x1,x2,x3,x4⟩=>((Qq .i64) x0)/\((Qq .i64) x1)/\(Cond.wf x2)/\(x3.length<=1048576/\Step.wfs x3)/\(x4.length<=1048576/\Step.wfs x4)/\True
def Step.wfs:List Step->Prop
  |[]=>True
  |x::l=>Step.wf x/\Step.wfs l
end
theorem Qdy(l:List Step):Step.wfs l↔ ∀x∈l,Step.wf x:=by
  induction l with
  |nil=>simp[Step.wfs]
  |cons x l ih=>simp[Step.wfs,ih]
theorem Qqx:∀n,RB prog n 110 Step Step.enc Step.wf:=Qe2 (λn ih=>Q3 (RB.struct underlying110 (by kernel_rfl) (Em QJ (Em QJ (El (k:=4) rfl (by kernel_rfl) (Qqy n) (Em (RB.slice (k:=8) GM (by kernel_rfl) rfl (λx=>by rw[YT];rfl) ih).down (Em (RB.slice (k:=8) GM (by kernel_rfl) rfl (λx=>by rw[YT];rfl) ih).down RF.nil)))))) (λp=>⟨p.1,p.2.1,p.2.2.1,p.2.2.2.1,p.2.2.2.2.1⟩) (λp=>by simp[Step.enc,Qdz,Qe,Qa8,JO,QoH,Qap,Cond.c]) (λp h=>by simpa[Step.wf,Qdy]using h))
def Faults.wf(x:Faults):Prop:=(Qq .i64) x.Misses/\(Qq .i64) x.Strays/\(Qq .i64) x.Window/\(Qq .i64) x.Residual/\(Qq .i64) x.Drift/\True
theorem rd_31:RB prog n 31 Faults Faults.c Faults.wf:=(Q3 (RB.struct underlying31 (by kernel_rfl) (Em QJ (Em QJ (Em QJ (Em QJ (Em QJ RF.nil)))))) (λp=>⟨p.1,p.2.1,p.2.2.1,p.2.2.2.1,p.2.2.2.2.1⟩) Zf (λ_ h=>h)).down
def Course.wf(x:Course):Prop:=(λs=>s.length<=1048576) x.Name/\(λl=>l.length<=1048576/\ ∀x∈l,Mat.wf x) x.Mats/\(λl=>l.length<=1048576/\ ∀x∈l,Leg.wf x) x.Legs/\(λl=>l.length<=1048576/\ ∀x∈l,Distance.wf x) x.Distances/\(λl=>l.length<=1048576/\ ∀x∈l,Wave.wf x) x.Waves/\(λl=>l.length<=1048576/\ ∀x∈l,Offence.wf x) x.Offences/\(λl=>l.length<=1048576/\ ∀x∈l,Category.wf x) x.Categories/\(λl=>l.length<=1048576/\ ∀x∈l,Prize.wf x) x.Prizes/\(λl=>l.length<=1048576/\ ∀x∈l,Step.wf x) x.Ties/\Faults.wf x.Faults/\(Qq .i64) x.Fee/\(Qq .i64) x.Deadline/\True
theorem rd_33:RB prog n 33 Course Course.c Course.wf:=(Q3 (RB.struct underlying33 (by kernel_rfl) (Em (RB.string Gi) (Em (RB.slice (k:=2) underlying22 (by kernel_rfl) rfl Zf (Qqu n)).down (Em (RB.slice (k:=4) underlying23 (by kernel_rfl) rfl Zf (Qqt n)).down (Em (RB.slice (k:=5) underlying24 (by kernel_rfl) rfl Zf (Qqz n)).down (Em (RB.slice (k:=2) underlying25 (by kernel_rfl) rfl Zf (Qqw n)).down (Em (RB.slice (k:=4) underlying26 (by kernel_rfl) rfl Zf (Qqv n)).down (Em (RB.slice (k:=3) underlying27 (by kernel_rfl) rfl Zf (Qqr n)).down (Em (RB.slice (k:=4) underlying28 (by kernel_rfl) rfl Zf (Qqp n)).down (Em (RB.slice (k:=8) GM (by kernel_rfl) rfl (λx=>by rw[YT];rfl) (Qqx n)).down (El (k:=5) rfl (by kernel_rfl) (rd_31 n) (Em QJ (Em QJ RF.nil))))))))))))) (λp=>⟨p.1,p.2.1,p.2.2.1,p.2.2.2.1,p.2.2.2.2.1,p.2.2.2.2.2.1,p.2.2.2.2.2.2.1,p.2.2.2.2.2.2.2.1,p.2.2.2.2.2.2.2.2.1,p.2.2.2.2.2.2.2.2.2.1,p.2.2.2.2.2.2.2.2.2.2.1,p.2.2.2.2.2.2.2.2.2.2.2.1⟩) Zf (λ_ h=>h)).down
def Starter.wf(x:Starter):Prop:=(Qq .i64) x.Bib/\(Qq .i64) x.Distance/\(Qq .i64) x.Wave/\(Qq .i64) x.Slot/\(Qq .i64) x.Age/\(Qq .i64) x.Chip/\(Qq .i64) x.Team/\(Qq .i64) x.Lot/\True
theorem rd_48:RB prog n 48 Starter Starter.c Starter.wf:=(Q3 (RB.struct underlying48 (by kernel_rfl) (Em QJ (Em QJ (Em QJ (Em QJ (Em QJ (Em QJ (Em QJ (Em QJ RF.nil))))))))) (λp=>⟨p.1,p.2.1,p.2.2.1,p.2.2.2.1,p.2.2.2.2.1,p.2.2.2.2.2.1,p.2.2.2.2.2.2.1,p.2.2.2.2.2.2.2.1⟩) Zf (λ_ h=>h)).down
def Read.wf(x:Read):Prop:=(Qq .i64) x.Mat/\(Qq .i64) x.Epoch/\(Qq .i64) x.Chip/\(Qq .i64) x.Local/\True
theorem rd_50:RB prog n 50 Read Read.c Read.wf:=(Q3 (RB.struct underlying50 (by kernel_rfl) (Em QJ (Em QJ (Em QJ (Em QJ RF.nil))))) (λp=>⟨p.1,p.2.1,p.2.2.1,p.2.2.2.1⟩) Zf (λ_ h=>h)).down
def Beacon.wf(x:Beacon):Prop:=(Qq .i64) x.Mat/\(Qq .i64) x.Epoch/\(Qq .i64) x.Local/\(Qq .i64) x.True/\(Qq .i64) x.Err/\_root_.True
theorem rd_52:RB prog n 52 Beacon Beacon.c Beacon.wf:=(Q3 (RB.struct underlying52 (by kernel_rfl) (Em QJ (Em QJ (Em QJ (Em QJ (Em QJ RF.nil)))))) (λp=>⟨p.1,p.2.1,p.2.2.1,p.2.2.2.1,p.2.2.2.2.1⟩) Zf (λ_ h=>h)).down
def Sync.wf(x:Sync):Prop:=(Qq .i64) x.MatA/\(Qq .i64) x.EpochA/\(Qq .i64) x.LocalA/\(Qq .i64) x.MatB/\(Qq .i64) x.EpochB/\(Qq .i64) x.LocalB/\(Qq .i64) x.Min/\(Qq .i64) x.Max/\True
theorem rd_54:RB prog n 54 Sync Sync.c Sync.wf:=(Q3 (RB.struct underlying54 (by kernel_rfl) (Em QJ (Em QJ (Em QJ (Em QJ (Em QJ (Em QJ (Em QJ (Em QJ RF.nil))))))))) (λp=>⟨p.1,p.2.1,p.2.2.1,p.2.2.2.1,p.2.2.2.2.1,p.2.2.2.2.2.1,p.2.2.2.2.2.2.1,p.2.2.2.2.2.2.2.1⟩) Zf (λ_ h=>h)).down
def Hand.wf(x:Hand):Prop:=(Qq .i64) x.Bib/\(Qq .i64) x.Position/\(Qq .i64) x.Lo/\(Qq .i64) x.Hi/\True
theorem rd_56:RB prog n 56 Hand Hand.c Hand.wf:=(Q3 (RB.struct underlying56 (by kernel_rfl) (Em QJ (Em QJ (Em QJ (Em QJ RF.nil))))) (λp=>⟨p.1,p.2.1,p.2.2.1,p.2.2.2.1⟩) Zf (λ_ h=>h)).down
def Silence.wf(x:Silence):Prop:=(Qq .i64) x.Mat/\(Qq .i64) x.Epoch/\(Qq .i64) x.Lo/\(Qq .i64) x.Hi/\True
theorem rd_58:RB prog n 58 Silence Silence.c Silence.wf:=(Q3 (RB.struct underlying58 (by kernel_rfl) (Em QJ (Em QJ (Em QJ (Em QJ RF.nil))))) (λp=>⟨p.1,p.2.1,p.2.2.1,p.2.2.2.1⟩) Zf (λ_ h=>h)).down
def Pair.wf(x:Pair):Prop:=(Qq .i64) x.A/\(Qq .i64) x.B/\True
theorem rd_60:RB prog n 60 Pair Pair.c Pair.wf:=(Q3 (RB.struct underlying60 (by kernel_rfl) (Em QJ (Em QJ RF.nil))) (λp=>⟨p.1,p.2.1⟩) Zf (λ_ h=>h)).down
def Report.wf(x:Report):Prop:=(Qq .i64) x.Case/\(Qq .i64) x.Bib/\(Qq .i64) x.Offence/\(Qq .i64) x.Position/\True
theorem rd_62:RB prog n 62 Report Report.c Report.wf:=(Q3 (RB.struct underlying62 (by kernel_rfl) (Em QJ (Em QJ (Em QJ (Em QJ RF.nil))))) (λp=>⟨p.1,p.2.1,p.2.2.1,p.2.2.2.1⟩) Zf (λ_ h=>h)).down
def Protest.wf(x:Protest):Prop:=(Qq .i64) x.Case/\(Qq .i64) x.By/\(Qq .i64) x.Fee/\(Qq .i64) x.Form/\True
theorem rd_64:RB prog n 64 Protest Protest.c Protest.wf:=(Q3 (RB.struct underlying64 (by kernel_rfl) (Em QJ (Em QJ (Em QJ (Em QJ RF.nil))))) (λp=>⟨p.1,p.2.1,p.2.2.1,p.2.2.2.1⟩) Zf (λ_ h=>h)).down
def Ruling.wf(x:Ruling):Prop:=(Qq .i64) x.Case/\(Qq .i64) x.Instance/\(Qq .i64) x.Kind/\(Qq .i64) x.Bib/\(Qq .i64) x.Position/\(Qq .i64) x.Amount/\True
theorem rd_66:RB prog n 66 Ruling Ruling.c Ruling.wf:=(Q3 (RB.struct underlying66 (by kernel_rfl) (Em QJ (Em QJ (Em QJ (Em QJ (Em QJ (Em QJ RF.nil))))))) (λp=>⟨p.1,p.2.1,p.2.2.1,p.2.2.2.1,p.2.2.2.2.1,p.2.2.2.2.2.1⟩) Zf (λ_ h=>h)).down
def Appeal.wf(x:Appeal):Prop:=(Qq .i64) x.Case/\(λ_=>True) x.Suspends/\True
theorem rd_68:RB prog n 68 Appeal Appeal.c Appeal.wf:=(Q3 (RB.struct underlying68 (by kernel_rfl) (Em QJ (Em (RB.bool underlying4) RF.nil))) (λp=>⟨p.1,p.2.1⟩) Zf (λ_ h=>h)).down
def Ref.wf(x:Ref):Prop:=(Qq .i64) x.Crew/\(Qq .i64) x.No/\True
theorem rd_70:RB prog n 70 Ref Ref.c Ref.wf:=(Q3 (RB.struct underlying70 (by kernel_rfl) (Em QJ (Em QJ RF.nil))) (λp=>⟨p.1,p.2.1⟩) Zf (λ_ h=>h)).down
def Fact.wf(x:Fact):Prop:=(Qq .i64) x.Crew/\(Qq .i64) x.No/\(Qq .i64) x.At/\(Qq .i64) x.Kind/\Starter.wf x.Starter/\Read.wf x.Read/\Beacon.wf x.Beacon/\Sync.wf x.Sync/\Hand.wf x.Hand/\Silence.wf x.Silence/\Pair.wf x.Pair/\Report.wf x.Report/\Protest.wf x.Protest/\Ruling.wf x.Ruling/\Appeal.wf x.Appeal/\Ref.wf x.Void/\True
theorem rd_72:RB prog n 72 Fact Fact.c Fact.wf:=(Q3 (RB.struct underlying72 (by kernel_rfl) (Em QJ (Em QJ (Em QJ (Em QJ (El (k:=8) rfl (by kernel_rfl) (rd_48 n) (El (k:=4) rfl (by kernel_rfl) (rd_50 n) (El (k:=5) rfl (by kernel_rfl) (rd_52 n) (El (k:=8) rfl (by kernel_rfl) (rd_54 n) (El (k:=4) rfl (by kernel_rfl) (rd_56 n) (El (k:=4) rfl (by kernel_rfl) (rd_58 n) (El (k:=2) rfl (by kernel_rfl) (rd_60 n) (El (k:=4) rfl (by kernel_rfl) (rd_62 n) (El (k:=4) rfl (by kernel_rfl) (rd_64 n) (El (k:=6) rfl (by kernel_rfl) (rd_66 n) (El (k:=2) rfl (by kernel_rfl) (rd_68 n) (El (k:=2) rfl (by kernel_rfl) (rd_70 n) RF.nil))))))))))))))))) (λp=>⟨p.1,p.2.1,p.2.2.1,p.2.2.2.1,p.2.2.2.2.1,p.2.2.2.2.2.1,p.2.2.2.2.2.2.1,p.2.2.2.2.2.2.2.1,p.2.2.2.2.2.2.2.2.1,p.2.2.2.2.2.2.2.2.2.1,p.2.2.2.2.2.2.2.2.2.2.1,p.2.2.2.2.2.2.2.2.2.2.2.1,p.2.2.2.2.2.2.2.2.2.2.2.2.1,p.2.2.2.2.2.2.2.2.2.2.2.2.2.1,p.2.2.2.2.2.2.2.2.2.2.2.2.2.2.1,p.2.2.2.2.2.2.2.2.2.2.2.2.2.2.2.1⟩) Zf (λ_ h=>h)).down
end Go.Sw
