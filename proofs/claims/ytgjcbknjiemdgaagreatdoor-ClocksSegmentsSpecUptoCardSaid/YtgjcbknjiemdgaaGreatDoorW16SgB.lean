/- How the arguments of ClocksSegmentsSpec are read. -/
import Derived.Test.YtgjcbknjiemdgaaGreatDoorW16SgA
set_option linter.unusedVariables false
set_option linter.unusedSimpArgs false
set_option maxRecDepth 100000
set_option maxHeartbeats 4000000
namespace Go.Sw
open Go.Proofs Tryz
def Mat.wf(x:Mat):Prop:=(λs=>s.length<=1048576) x.Name/\(Qm .i64) x.Kind/\True
theorem QoX(n:Nat):RB prog n 119 Mat Mat.c Mat.wf:=(Q0 (RB.struct underlying119 (by kernel_rfl) (El (RB.string E9) (El QF RF.nil))) (λp=>⟨p.1,p.2.1⟩) Zf (λ_ h=>h)).down
def Leg.wf(x:Leg):Prop:=(Qm .i64) x.From/\(Qm .i64) x.To/\(Qm .i64) x.Min/\(Qm .i64) x.Max/\True
theorem QoT(n:Nat):RB prog n 162 Leg Leg.c Leg.wf:=(Q0 (RB.struct underlying162 (by kernel_rfl) (El QF (El QF (El QF (El QF RF.nil))))) (λp=>⟨p.1,p.2.1,p.2.2.1,p.2.2.2.1⟩) Zf (λ_ h=>h)).down
mutual
def Part.wf:Part->Prop
  |⟨x0,x1,x2⟩=>((Qm .i64) x0)/\((Qm .i64) x1)/\(x2.length<=1048576/\Part.wfs x2)/\True
def Part.wfs:List Part->Prop
  |[]=>True
  |x::l=>Part.wf x/\Part.wfs l
end
theorem Qdk(l:List Part):Part.wfs l↔ ∀x∈l,Part.wf x:=by
  induction l with
  |nil=>simp[Part.wfs]
  |cons x l ih=>simp[Part.wfs,ih]
theorem QoU:∀n,RB prog n 156 Part Part.enc Part.wf:=QeI (λn ih=>Q0 (RB.struct underlying156 (by kernel_rfl) (El QF (El QF (El (RB.slice (k:=3) underlying108 (by kernel_rfl) rfl (λx=>by rw[Q7];rfl) ih).down RF.nil)))) (λp=>⟨p.1,p.2.1,p.2.2.1⟩) (λp=>by simp[Part.enc,Qdl,Qe,Qa1,JB,Qu]) (λp h=>by simpa[Part.wf,Qdk]using h))
def Cutoff.wf(x:Cutoff):Prop:=(Qm .i64) x.Mat/\(Qm .i64) x.Lap/\(Qm .i64) x.Limit/\True
theorem QoP(n:Nat):RB prog n 215 Cutoff Cutoff.c Cutoff.wf:=(Q0 (RB.struct underlying215 (by kernel_rfl) (El QF (El QF (El QF RF.nil)))) (λp=>⟨p.1,p.2.1,p.2.2.1⟩) Zf (λ_ h=>h)).down
def Distance.wf(x:Distance):Prop:=(λs=>s.length<=1048576) x.Name/\(λl=>l.length<=1048576/\ ∀x∈l,Part.wf x) x.Route/\(Qm .i64) x.Timing/\(λl=>l.length<=1048576/\ ∀x∈l,Cutoff.wf x) x.Cutoffs/\(Qm .i64) x.Extra/\True
theorem QoY(n:Nat):RB prog n 111 Distance Distance.c Distance.wf:=(Q0 (RB.struct underlying111 (by kernel_rfl) (El (RB.string E9) (El (RB.slice (k:=3) underlying108 (by kernel_rfl) rfl (λx=>by rw[Q7];rfl) (QoU n)).down (El QF (El (RB.slice (k:=3) underlying109 (by kernel_rfl) rfl Zf (QoP n)).down (El QF RF.nil)))))) (λp=>⟨p.1,p.2.1,p.2.2.1,p.2.2.2.1,p.2.2.2.2.1⟩) Zf (λ_ h=>h)).down
def Wave.wf(x:Wave):Prop:=(λs=>s.length<=1048576) x.Name/\(Qm .i64) x.Gun/\True
theorem QoS(n:Nat):RB prog n 201 Wave Wave.c Wave.wf:=(Q0 (RB.struct underlying201 (by kernel_rfl) (El (RB.string E9) (El QF RF.nil))) (λp=>⟨p.1,p.2.1⟩) Zf (λ_ h=>h)).down
def Offence.wf(x:Offence):Prop:=(λs=>s.length<=1048576) x.Name/\(Qm .i64) x.Time/\(Qm .i64) x.Laps/\(λ_=>True) x.Out/\True
theorem QoR(n:Nat):RB prog n 205 Offence Offence.c Offence.wf:=(Q0 (RB.struct underlying205 (by kernel_rfl) (El (RB.string E9) (El QF (El QF (El (RB.bool underlying4) RF.nil))))) (λp=>⟨p.1,p.2.1,p.2.2.1,p.2.2.2.1⟩) Zf (λ_ h=>h)).down
def Category.wf(x:Category):Prop:=(λs=>s.length<=1048576) x.Name/\(Qm .i64) x.From/\(Qm .i64) x.To/\True
theorem QoQ(n:Nat):RB prog n 209 Category Category.c Category.wf:=(Q0 (RB.struct underlying209 (by kernel_rfl) (El (RB.string E9) (El QF (El QF RF.nil)))) (λp=>⟨p.1,p.2.1,p.2.2.1⟩) Zf (λ_ h=>h)).down
def Prize.wf(x:Prize):Prop:=(Qm .i64) x.Distance/\(Qm .i64) x.Category/\(Qm .i64) x.Rank/\(Qm .i64) x.Amount/\True
theorem QoO(n:Nat):RB prog n 221 Prize Prize.c Prize.wf:=(Q0 (RB.struct underlying221 (by kernel_rfl) (El QF (El QF (El QF (El QF RF.nil))))) (λp=>⟨p.1,p.2.1,p.2.2.1,p.2.2.2.1⟩) Zf (λ_ h=>h)).down
mutual
def Cond.wf:Cond->Prop
  |⟨x0,x1,x2,x3⟩=>((Qm .i64) x0)/\((Qm .i64) x1)/\((Qm .i64) x2)/\(x3.length<=1048576/\Cond.wfs x3)/\True
def Cond.wfs:List Cond->Prop
  |[]=>True
  |x::l=>Cond.wf x/\Cond.wfs l
end
theorem Qdp(l:List Cond):Cond.wfs l↔ ∀x∈l,Cond.wf x:=by
  induction l with
  |nil=>simp[Cond.wfs]
  |cons x l ih=>simp[Cond.wfs,ih]
theorem QoW:∀n,RB prog n 152 Cond Cond.enc Cond.wf:=QeI (λn ih=>Q0 (RB.struct underlying152 (by kernel_rfl) (El QF (El QF (El QF (El (RB.slice (k:=4) underlying150 (by kernel_rfl) rfl (λx=>by rw[Qal];rfl) ih).down RF.nil))))) (λp=>⟨p.1,p.2.1,p.2.2.1,p.2.2.2.1⟩) (λp=>by simp[Cond.enc,Qdq,Qe,Qa1,JB,Qu]) (λp h=>by simpa[Cond.wf,Qdp]using h))
mutual
def Step.wf:Step->Prop
  |⟨x0,x1,x2,x3,x4⟩=>((Qm .i64) x0)/\((Qm .i64) x1)/\(Cond.wf x2)/\(x3.length<=1048576/\Step.wfs x3)/\(x4.length<=1048576/\Step.wfs x4)/\True
def Step.wfs:List Step->Prop
  |[]=>True
  |x::l=>Step.wf x/\Step.wfs l
end
theorem Qdh(l:List Step):Step.wfs l↔ ∀x∈l,Step.wf x:=by
  induction l with
  |nil=>simp[Step.wfs]
  |cons x l ih=>simp[Step.wfs,ih]
theorem QoV:∀n,RB prog n 154 Step Step.enc Step.wf:=QeI (λn ih=>Q0 (RB.struct underlying154 (by kernel_rfl) (El QF (El QF (Ek (k:=4) rfl (by kernel_rfl) (QoW n) (El (RB.slice (k:=8) Gy (by kernel_rfl) rfl (λx=>by rw[YL];rfl) ih).down (El (RB.slice (k:=8) Gy (by kernel_rfl) rfl (λx=>by rw[YL];rfl) ih).down RF.nil)))))) (λp=>⟨p.1,p.2.1,p.2.2.1,p.2.2.2.1,p.2.2.2.2.1⟩) (λp=>by simp[Step.enc,Qdi,Qe,Qa1,JB,Qu,Qal,Cond.c]) (λp h=>by simpa[Step.wf,Qdh]using h))
def Faults.wf(x:Faults):Prop:=(Qm .i64) x.Misses/\(Qm .i64) x.Strays/\(Qm .i64) x.Window/\(Qm .i64) x.Residual/\(Qm .i64) x.Drift/\True
theorem rd_31(n:Nat):RB prog n 31 Faults Faults.c Faults.wf:=(Q0 (RB.struct underlying31 (by kernel_rfl) (El QF (El QF (El QF (El QF (El QF RF.nil)))))) (λp=>⟨p.1,p.2.1,p.2.2.1,p.2.2.2.1,p.2.2.2.2.1⟩) Zf (λ_ h=>h)).down
def Course.wf(x:Course):Prop:=(λs=>s.length<=1048576) x.Name/\(λl=>l.length<=1048576/\ ∀x∈l,Mat.wf x) x.Mats/\(λl=>l.length<=1048576/\ ∀x∈l,Leg.wf x) x.Legs/\(λl=>l.length<=1048576/\ ∀x∈l,Distance.wf x) x.Distances/\(λl=>l.length<=1048576/\ ∀x∈l,Wave.wf x) x.Waves/\(λl=>l.length<=1048576/\ ∀x∈l,Offence.wf x) x.Offences/\(λl=>l.length<=1048576/\ ∀x∈l,Category.wf x) x.Categories/\(λl=>l.length<=1048576/\ ∀x∈l,Prize.wf x) x.Prizes/\(λl=>l.length<=1048576/\ ∀x∈l,Step.wf x) x.Ties/\Faults.wf x.Faults/\(Qm .i64) x.Fee/\(Qm .i64) x.Deadline/\True
theorem rd_33(n:Nat):RB prog n 33 Course Course.c Course.wf:=(Q0 (RB.struct underlying33 (by kernel_rfl) (El (RB.string E9) (El (RB.slice (k:=2) underlying22 (by kernel_rfl) rfl Zf (QoX n)).down (El (RB.slice (k:=4) underlying23 (by kernel_rfl) rfl Zf (QoT n)).down (El (RB.slice (k:=5) underlying24 (by kernel_rfl) rfl Zf (QoY n)).down (El (RB.slice (k:=2) underlying25 (by kernel_rfl) rfl Zf (QoS n)).down (El (RB.slice (k:=4) underlying26 (by kernel_rfl) rfl Zf (QoR n)).down (El (RB.slice (k:=3) underlying27 (by kernel_rfl) rfl Zf (QoQ n)).down (El (RB.slice (k:=4) underlying28 (by kernel_rfl) rfl Zf (QoO n)).down (El (RB.slice (k:=8) Gy (by kernel_rfl) rfl (λx=>by rw[YL];rfl) (QoV n)).down (Ek (k:=5) rfl (by kernel_rfl) (rd_31 n) (El QF (El QF RF.nil))))))))))))) (λp=>⟨p.1,p.2.1,p.2.2.1,p.2.2.2.1,p.2.2.2.2.1,p.2.2.2.2.2.1,p.2.2.2.2.2.2.1,p.2.2.2.2.2.2.2.1,p.2.2.2.2.2.2.2.2.1,p.2.2.2.2.2.2.2.2.2.1,p.2.2.2.2.2.2.2.2.2.2.1,p.2.2.2.2.2.2.2.2.2.2.2.1⟩) Zf (λ_ h=>h)).down
def Starter.wf(x:Starter):Prop:=(Qm .i64) x.Bib/\(Qm .i64) x.Distance/\(Qm .i64) x.Wave/\(Qm .i64) x.Slot/\(Qm .i64) x.Age/\(Qm .i64) x.Chip/\(Qm .i64) x.Team/\(Qm .i64) x.Lot/\True
theorem rd_72(n:Nat):RB prog n 72 Starter Starter.c Starter.wf:=(Q0 (RB.struct underlying72 (by kernel_rfl) (El QF (El QF (El QF (El QF (El QF (El QF (El QF (El QF RF.nil))))))))) (λp=>⟨p.1,p.2.1,p.2.2.1,p.2.2.2.1,p.2.2.2.2.1,p.2.2.2.2.2.1,p.2.2.2.2.2.2.1,p.2.2.2.2.2.2.2.1⟩) Zf (λ_ h=>h)).down
def Read.wf(x:Read):Prop:=(Qm .i64) x.Mat/\(Qm .i64) x.Epoch/\(Qm .i64) x.Chip/\(Qm .i64) x.Local/\True
theorem rd_74(n:Nat):RB prog n 74 Read Read.c Read.wf:=(Q0 (RB.struct underlying74 (by kernel_rfl) (El QF (El QF (El QF (El QF RF.nil))))) (λp=>⟨p.1,p.2.1,p.2.2.1,p.2.2.2.1⟩) Zf (λ_ h=>h)).down
def Beacon.wf(x:Beacon):Prop:=(Qm .i64) x.Mat/\(Qm .i64) x.Epoch/\(Qm .i64) x.Local/\(Qm .i64) x.True/\(Qm .i64) x.Err/\_root_.True
theorem rd_76(n:Nat):RB prog n 76 Beacon Beacon.c Beacon.wf:=(Q0 (RB.struct underlying76 (by kernel_rfl) (El QF (El QF (El QF (El QF (El QF RF.nil)))))) (λp=>⟨p.1,p.2.1,p.2.2.1,p.2.2.2.1,p.2.2.2.2.1⟩) Zf (λ_ h=>h)).down
def Sync.wf(x:Sync):Prop:=(Qm .i64) x.MatA/\(Qm .i64) x.EpochA/\(Qm .i64) x.LocalA/\(Qm .i64) x.MatB/\(Qm .i64) x.EpochB/\(Qm .i64) x.LocalB/\(Qm .i64) x.Min/\(Qm .i64) x.Max/\True
theorem rd_78(n:Nat):RB prog n 78 Sync Sync.c Sync.wf:=(Q0 (RB.struct underlying78 (by kernel_rfl) (El QF (El QF (El QF (El QF (El QF (El QF (El QF (El QF RF.nil))))))))) (λp=>⟨p.1,p.2.1,p.2.2.1,p.2.2.2.1,p.2.2.2.2.1,p.2.2.2.2.2.1,p.2.2.2.2.2.2.1,p.2.2.2.2.2.2.2.1⟩) Zf (λ_ h=>h)).down
def Hand.wf(x:Hand):Prop:=(Qm .i64) x.Bib/\(Qm .i64) x.Position/\(Qm .i64) x.Lo/\(Qm .i64) x.Hi/\True
theorem rd_80(n:Nat):RB prog n 80 Hand Hand.c Hand.wf:=(Q0 (RB.struct underlying80 (by kernel_rfl) (El QF (El QF (El QF (El QF RF.nil))))) (λp=>⟨p.1,p.2.1,p.2.2.1,p.2.2.2.1⟩) Zf (λ_ h=>h)).down
def Silence.wf(x:Silence):Prop:=(Qm .i64) x.Mat/\(Qm .i64) x.Epoch/\(Qm .i64) x.Lo/\(Qm .i64) x.Hi/\True
theorem rd_82(n:Nat):RB prog n 82 Silence Silence.c Silence.wf:=(Q0 (RB.struct underlying82 (by kernel_rfl) (El QF (El QF (El QF (El QF RF.nil))))) (λp=>⟨p.1,p.2.1,p.2.2.1,p.2.2.2.1⟩) Zf (λ_ h=>h)).down
def Pair.wf(x:Pair):Prop:=(Qm .i64) x.A/\(Qm .i64) x.B/\True
theorem rd_84(n:Nat):RB prog n 84 Pair Pair.c Pair.wf:=(Q0 (RB.struct underlying84 (by kernel_rfl) (El QF (El QF RF.nil))) (λp=>⟨p.1,p.2.1⟩) Zf (λ_ h=>h)).down
def Report.wf(x:Report):Prop:=(Qm .i64) x.Case/\(Qm .i64) x.Bib/\(Qm .i64) x.Offence/\(Qm .i64) x.Position/\True
theorem rd_86(n:Nat):RB prog n 86 Report Report.c Report.wf:=(Q0 (RB.struct underlying86 (by kernel_rfl) (El QF (El QF (El QF (El QF RF.nil))))) (λp=>⟨p.1,p.2.1,p.2.2.1,p.2.2.2.1⟩) Zf (λ_ h=>h)).down
def Protest.wf(x:Protest):Prop:=(Qm .i64) x.Case/\(Qm .i64) x.By/\(Qm .i64) x.Fee/\(Qm .i64) x.Form/\True
theorem rd_88(n:Nat):RB prog n 88 Protest Protest.c Protest.wf:=(Q0 (RB.struct underlying88 (by kernel_rfl) (El QF (El QF (El QF (El QF RF.nil))))) (λp=>⟨p.1,p.2.1,p.2.2.1,p.2.2.2.1⟩) Zf (λ_ h=>h)).down
def Ruling.wf(x:Ruling):Prop:=(Qm .i64) x.Case/\(Qm .i64) x.Instance/\(Qm .i64) x.Kind/\(Qm .i64) x.Bib/\(Qm .i64) x.Position/\(Qm .i64) x.Amount/\True
theorem rd_90(n:Nat):RB prog n 90 Ruling Ruling.c Ruling.wf:=(Q0 (RB.struct underlying90 (by kernel_rfl) (El QF (El QF (El QF (El QF (El QF (El QF RF.nil))))))) (λp=>⟨p.1,p.2.1,p.2.2.1,p.2.2.2.1,p.2.2.2.2.1,p.2.2.2.2.2.1⟩) Zf (λ_ h=>h)).down
def Appeal.wf(x:Appeal):Prop:=(Qm .i64) x.Case/\(λ_=>True) x.Suspends/\True
theorem rd_92(n:Nat):RB prog n 92 Appeal Appeal.c Appeal.wf:=(Q0 (RB.struct underlying92 (by kernel_rfl) (El QF (El (RB.bool underlying4) RF.nil))) (λp=>⟨p.1,p.2.1⟩) Zf (λ_ h=>h)).down
def Ref.wf(x:Ref):Prop:=(Qm .i64) x.Crew/\(Qm .i64) x.No/\True
theorem rd_94(n:Nat):RB prog n 94 Ref Ref.c Ref.wf:=(Q0 (RB.struct underlying94 (by kernel_rfl) (El QF (El QF RF.nil))) (λp=>⟨p.1,p.2.1⟩) Zf (λ_ h=>h)).down
def Fact.wf(x:Fact):Prop:=(Qm .i64) x.Crew/\(Qm .i64) x.No/\(Qm .i64) x.At/\(Qm .i64) x.Kind/\Starter.wf x.Starter/\Read.wf x.Read/\Beacon.wf x.Beacon/\Sync.wf x.Sync/\Hand.wf x.Hand/\Silence.wf x.Silence/\Pair.wf x.Pair/\Report.wf x.Report/\Protest.wf x.Protest/\Ruling.wf x.Ruling/\Appeal.wf x.Appeal/\Ref.wf x.Void/\True
theorem rd_96(n:Nat):RB prog n 96 Fact Fact.c Fact.wf:=(Q0 (RB.struct underlying96 (by kernel_rfl) (El QF (El QF (El QF (El QF (Ek (k:=8) rfl (by kernel_rfl) (rd_72 n) (Ek (k:=4) rfl (by kernel_rfl) (rd_74 n) (Ek (k:=5) rfl (by kernel_rfl) (rd_76 n) (Ek (k:=8) rfl (by kernel_rfl) (rd_78 n) (Ek (k:=4) rfl (by kernel_rfl) (rd_80 n) (Ek (k:=4) rfl (by kernel_rfl) (rd_82 n) (Ek (k:=2) rfl (by kernel_rfl) (rd_84 n) (Ek (k:=4) rfl (by kernel_rfl) (rd_86 n) (Ek (k:=4) rfl (by kernel_rfl) (rd_88 n) (Ek (k:=6) rfl (by kernel_rfl) (rd_90 n) (Ek (k:=2) rfl (by kernel_rfl) (rd_92 n) (Ek (k:=2) rfl (by kernel_rfl) (rd_94 n) RF.nil))))))))))))))))) (λp=>⟨p.1,p.2.1,p.2.2.1,p.2.2.2.1,p.2.2.2.2.1,p.2.2.2.2.2.1,p.2.2.2.2.2.2.1,p.2.2.2.2.2.2.2.1,p.2.2.2.2.2.2.2.2.1,p.2.2.2.2.2.2.2.2.2.1,p.2.2.2.2.2.2.2.2.2.2.1,p.2.2.2.2.2.2.2.2.2.2.2.1,p.2.2.2.2.2.2.2.2.2.2.2.2.1,p.2.2.2.2.2.2.2.2.2.2.2.2.2.1,p.2.2.2.2.2.2.2.2.2.2.2.2.2.2.1,p.2.2.2.2.2.2.2.2.2.2.2.2.2.2.2.1⟩) Zf (λ_ h=>h)).down
def Segment.wf(x:Segment):Prop:=(Qm .i64) x.Mat/\(Qm .i64) x.Epoch/\(Qm .i64) x.Anchor/\True
theorem rd_36(n:Nat):RB prog n 36 Segment Segment.c Segment.wf:=(Q0 (RB.struct underlying36 (by kernel_rfl) (El QF (El QF (El QF RF.nil)))) (λp=>⟨p.1,p.2.1,p.2.2.1⟩) Zf (λ_ h=>h)).down
end Go.Sw
