/- How the arguments of ClocksSystemSpec are read. -/
import Derived.Test.YtgjcbknjiemdgaaGreatDoorW16SyA
set_option linter.unusedVariables false
set_option linter.unusedSimpArgs false
set_option maxRecDepth 100000
set_option maxHeartbeats 4000000
namespace Go.Sw
open Go.Proofs Tryz
def Mat.wf(x:Mat):Prop:=(λs=>s.length<=1048576) x.Name/\(Qs .i64) x.Kind/\True
theorem Qpe(n:Nat):RB prog n 119 Mat Mat.c Mat.wf:=(Q4 (RB.struct underlying119 (by kernel_rfl) (Em (RB.string Gd) (Em QI RF.nil))) (λp=>⟨p.1,p.2.1⟩) Zf (λ_ h=>h)).down
def Leg.wf(x:Leg):Prop:=(Qs .i64) x.From/\(Qs .i64) x.To/\(Qs .i64) x.Min/\(Qs .i64) x.Max/\True
theorem Qpa(n:Nat):RB prog n 162 Leg Leg.c Leg.wf:=(Q4 (RB.struct underlying162 (by kernel_rfl) (Em QI (Em QI (Em QI (Em QI RF.nil))))) (λp=>⟨p.1,p.2.1,p.2.2.1,p.2.2.2.1⟩) Zf (λ_ h=>h)).down
mutual
def Part.wf:Part->Prop
  |⟨x0,x1,x2⟩=>((Qs .i64) x0)/\((Qs .i64) x1)/\(x2.length<=1048576/\Part.wfs x2)/\True
def Part.wfs:List Part->Prop
  |[]=>True
  |x::l=>Part.wf x/\Part.wfs l
end
theorem Qdw(l:List Part):Part.wfs l↔ ∀x∈l,Part.wf x:=by
  induction l with
  |nil=>simp[Part.wfs]
  |cons x l ih=>simp[Part.wfs,ih]
theorem Qpb:∀n,RB prog n 156 Part Part.enc Part.wf:=Qe3 (λn ih=>Q4 (RB.struct underlying156 (by kernel_rfl) (Em QI (Em QI (Em (RB.slice (k:=3) underlying108 (by kernel_rfl) rfl (λx=>by rw[Yb];rfl) ih).down RF.nil)))) (λp=>⟨p.1,p.2.1,p.2.2.1⟩) (λp=>by simp[Part.enc,Qdx,Qf,Qa6,JC,Qx]) (λp h=>by simpa[Part.wf,Qdw]using h))
def Cutoff.wf(x:Cutoff):Prop:=(Qs .i64) x.Mat/\(Qs .i64) x.Lap/\(Qs .i64) x.Limit/\True
theorem Qo6(n:Nat):RB prog n 215 Cutoff Cutoff.c Cutoff.wf:=(Q4 (RB.struct underlying215 (by kernel_rfl) (Em QI (Em QI (Em QI RF.nil)))) (λp=>⟨p.1,p.2.1,p.2.2.1⟩) Zf (λ_ h=>h)).down
def Distance.wf(x:Distance):Prop:=(λs=>s.length<=1048576) x.Name/\(λl=>l.length<=1048576/\ ∀x∈l,Part.wf x) x.Route/\(Qs .i64) x.Timing/\(λl=>l.length<=1048576/\ ∀x∈l,Cutoff.wf x) x.Cutoffs/\(Qs .i64) x.Extra/\True
theorem Qpf(n:Nat):RB prog n 111 Distance Distance.c Distance.wf:=(Q4 (RB.struct underlying111 (by kernel_rfl) (Em (RB.string Gd) (Em (RB.slice (k:=3) underlying108 (by kernel_rfl) rfl (λx=>by rw[Yb];rfl) (Qpb n)).down (Em QI (Em (RB.slice (k:=3) underlying109 (by kernel_rfl) rfl Zf (Qo6 n)).down (Em QI RF.nil)))))) (λp=>⟨p.1,p.2.1,p.2.2.1,p.2.2.2.1,p.2.2.2.2.1⟩) Zf (λ_ h=>h)).down
def Wave.wf(x:Wave):Prop:=(λs=>s.length<=1048576) x.Name/\(Qs .i64) x.Gun/\True
theorem Qo9(n:Nat):RB prog n 201 Wave Wave.c Wave.wf:=(Q4 (RB.struct underlying201 (by kernel_rfl) (Em (RB.string Gd) (Em QI RF.nil))) (λp=>⟨p.1,p.2.1⟩) Zf (λ_ h=>h)).down
def Offence.wf(x:Offence):Prop:=(λs=>s.length<=1048576) x.Name/\(Qs .i64) x.Time/\(Qs .i64) x.Laps/\(λ_=>True) x.Out/\True
theorem Qo8(n:Nat):RB prog n 205 Offence Offence.c Offence.wf:=(Q4 (RB.struct underlying205 (by kernel_rfl) (Em (RB.string Gd) (Em QI (Em QI (Em (RB.bool underlying4) RF.nil))))) (λp=>⟨p.1,p.2.1,p.2.2.1,p.2.2.2.1⟩) Zf (λ_ h=>h)).down
def Category.wf(x:Category):Prop:=(λs=>s.length<=1048576) x.Name/\(Qs .i64) x.From/\(Qs .i64) x.To/\True
theorem Qo7(n:Nat):RB prog n 209 Category Category.c Category.wf:=(Q4 (RB.struct underlying209 (by kernel_rfl) (Em (RB.string Gd) (Em QI (Em QI RF.nil)))) (λp=>⟨p.1,p.2.1,p.2.2.1⟩) Zf (λ_ h=>h)).down
def Prize.wf(x:Prize):Prop:=(Qs .i64) x.Distance/\(Qs .i64) x.Category/\(Qs .i64) x.Rank/\(Qs .i64) x.Amount/\True
theorem Qo5(n:Nat):RB prog n 221 Prize Prize.c Prize.wf:=(Q4 (RB.struct underlying221 (by kernel_rfl) (Em QI (Em QI (Em QI (Em QI RF.nil))))) (λp=>⟨p.1,p.2.1,p.2.2.1,p.2.2.2.1⟩) Zf (λ_ h=>h)).down
mutual
def Cond.wf:Cond->Prop
  |⟨x0,x1,x2,x3⟩=>((Qs .i64) x0)/\((Qs .i64) x1)/\((Qs .i64) x2)/\(x3.length<=1048576/\Cond.wfs x3)/\True
def Cond.wfs:List Cond->Prop
  |[]=>True
  |x::l=>Cond.wf x/\Cond.wfs l
end
theorem QdA(l:List Cond):Cond.wfs l↔ ∀x∈l,Cond.wf x:=by
  induction l with
  |nil=>simp[Cond.wfs]
  |cons x l ih=>simp[Cond.wfs,ih]
theorem Qpd:∀n,RB prog n 152 Cond Cond.enc Cond.wf:=Qe3 (λn ih=>Q4 (RB.struct underlying152 (by kernel_rfl) (Em QI (Em QI (Em QI (Em (RB.slice (k:=4) underlying150 (by kernel_rfl) rfl (λx=>by rw[Qal];rfl) ih).down RF.nil))))) (λp=>⟨p.1,p.2.1,p.2.2.1,p.2.2.2.1⟩) (λp=>by simp[Cond.enc,QdB,Qf,Qa6,JC,Qx]) (λp h=>by simpa[Cond.wf,QdA]using h))
mutual
def Step.wf:Step->Prop
  |⟨x0,x1,x2,x3,x4⟩=>((Qs .i64) x0)/\((Qs .i64) x1)/\(Cond.wf x2)/\(x3.length<=1048576/\Step.wfs x3)/\(x4.length<=1048576/\Step.wfs x4)/\True
def Step.wfs:List Step->Prop
  |[]=>True
  |x::l=>Step.wf x/\Step.wfs l
end
theorem Qdt(l:List Step):Step.wfs l↔ ∀x∈l,Step.wf x:=by
  induction l with
  |nil=>simp[Step.wfs]
  |cons x l ih=>simp[Step.wfs,ih]
theorem Qpc:∀n,RB prog n 154 Step Step.enc Step.wf:=Qe3 (λn ih=>Q4 (RB.struct underlying154 (by kernel_rfl) (Em QI (Em QI (El (k:=4) rfl (by kernel_rfl) (Qpd n) (Em (RB.slice (k:=8) GD (by kernel_rfl) rfl (λx=>by rw[YM];rfl) ih).down (Em (RB.slice (k:=8) GD (by kernel_rfl) rfl (λx=>by rw[YM];rfl) ih).down RF.nil)))))) (λp=>⟨p.1,p.2.1,p.2.2.1,p.2.2.2.1,p.2.2.2.2.1⟩) (λp=>by simp[Step.enc,Qdu,Qf,Qa6,JC,Qx,Qal,Cond.c]) (λp h=>by simpa[Step.wf,Qdt]using h))
def Faults.wf(x:Faults):Prop:=(Qs .i64) x.Misses/\(Qs .i64) x.Strays/\(Qs .i64) x.Window/\(Qs .i64) x.Residual/\(Qs .i64) x.Drift/\True
theorem rd_31(n:Nat):RB prog n 31 Faults Faults.c Faults.wf:=(Q4 (RB.struct underlying31 (by kernel_rfl) (Em QI (Em QI (Em QI (Em QI (Em QI RF.nil)))))) (λp=>⟨p.1,p.2.1,p.2.2.1,p.2.2.2.1,p.2.2.2.2.1⟩) Zf (λ_ h=>h)).down
def Course.wf(x:Course):Prop:=(λs=>s.length<=1048576) x.Name/\(λl=>l.length<=1048576/\ ∀x∈l,Mat.wf x) x.Mats/\(λl=>l.length<=1048576/\ ∀x∈l,Leg.wf x) x.Legs/\(λl=>l.length<=1048576/\ ∀x∈l,Distance.wf x) x.Distances/\(λl=>l.length<=1048576/\ ∀x∈l,Wave.wf x) x.Waves/\(λl=>l.length<=1048576/\ ∀x∈l,Offence.wf x) x.Offences/\(λl=>l.length<=1048576/\ ∀x∈l,Category.wf x) x.Categories/\(λl=>l.length<=1048576/\ ∀x∈l,Prize.wf x) x.Prizes/\(λl=>l.length<=1048576/\ ∀x∈l,Step.wf x) x.Ties/\Faults.wf x.Faults/\(Qs .i64) x.Fee/\(Qs .i64) x.Deadline/\True
theorem rd_33(n:Nat):RB prog n 33 Course Course.c Course.wf:=(Q4 (RB.struct underlying33 (by kernel_rfl) (Em (RB.string Gd) (Em (RB.slice (k:=2) underlying22 (by kernel_rfl) rfl Zf (Qpe n)).down (Em (RB.slice (k:=4) underlying23 (by kernel_rfl) rfl Zf (Qpa n)).down (Em (RB.slice (k:=5) underlying24 (by kernel_rfl) rfl Zf (Qpf n)).down (Em (RB.slice (k:=2) underlying25 (by kernel_rfl) rfl Zf (Qo9 n)).down (Em (RB.slice (k:=4) underlying26 (by kernel_rfl) rfl Zf (Qo8 n)).down (Em (RB.slice (k:=3) underlying27 (by kernel_rfl) rfl Zf (Qo7 n)).down (Em (RB.slice (k:=4) underlying28 (by kernel_rfl) rfl Zf (Qo5 n)).down (Em (RB.slice (k:=8) GD (by kernel_rfl) rfl (λx=>by rw[YM];rfl) (Qpc n)).down (El (k:=5) rfl (by kernel_rfl) (rd_31 n) (Em QI (Em QI RF.nil))))))))))))) (λp=>⟨p.1,p.2.1,p.2.2.1,p.2.2.2.1,p.2.2.2.2.1,p.2.2.2.2.2.1,p.2.2.2.2.2.2.1,p.2.2.2.2.2.2.2.1,p.2.2.2.2.2.2.2.2.1,p.2.2.2.2.2.2.2.2.2.1,p.2.2.2.2.2.2.2.2.2.2.1,p.2.2.2.2.2.2.2.2.2.2.2.1⟩) Zf (λ_ h=>h)).down
def Starter.wf(x:Starter):Prop:=(Qs .i64) x.Bib/\(Qs .i64) x.Distance/\(Qs .i64) x.Wave/\(Qs .i64) x.Slot/\(Qs .i64) x.Age/\(Qs .i64) x.Chip/\(Qs .i64) x.Team/\(Qs .i64) x.Lot/\True
theorem rd_72(n:Nat):RB prog n 72 Starter Starter.c Starter.wf:=(Q4 (RB.struct underlying72 (by kernel_rfl) (Em QI (Em QI (Em QI (Em QI (Em QI (Em QI (Em QI (Em QI RF.nil))))))))) (λp=>⟨p.1,p.2.1,p.2.2.1,p.2.2.2.1,p.2.2.2.2.1,p.2.2.2.2.2.1,p.2.2.2.2.2.2.1,p.2.2.2.2.2.2.2.1⟩) Zf (λ_ h=>h)).down
def Read.wf(x:Read):Prop:=(Qs .i64) x.Mat/\(Qs .i64) x.Epoch/\(Qs .i64) x.Chip/\(Qs .i64) x.Local/\True
theorem rd_74(n:Nat):RB prog n 74 Read Read.c Read.wf:=(Q4 (RB.struct underlying74 (by kernel_rfl) (Em QI (Em QI (Em QI (Em QI RF.nil))))) (λp=>⟨p.1,p.2.1,p.2.2.1,p.2.2.2.1⟩) Zf (λ_ h=>h)).down
def Beacon.wf(x:Beacon):Prop:=(Qs .i64) x.Mat/\(Qs .i64) x.Epoch/\(Qs .i64) x.Local/\(Qs .i64) x.True/\(Qs .i64) x.Err/\_root_.True
theorem rd_76(n:Nat):RB prog n 76 Beacon Beacon.c Beacon.wf:=(Q4 (RB.struct underlying76 (by kernel_rfl) (Em QI (Em QI (Em QI (Em QI (Em QI RF.nil)))))) (λp=>⟨p.1,p.2.1,p.2.2.1,p.2.2.2.1,p.2.2.2.2.1⟩) Zf (λ_ h=>h)).down
def Sync.wf(x:Sync):Prop:=(Qs .i64) x.MatA/\(Qs .i64) x.EpochA/\(Qs .i64) x.LocalA/\(Qs .i64) x.MatB/\(Qs .i64) x.EpochB/\(Qs .i64) x.LocalB/\(Qs .i64) x.Min/\(Qs .i64) x.Max/\True
theorem rd_78(n:Nat):RB prog n 78 Sync Sync.c Sync.wf:=(Q4 (RB.struct underlying78 (by kernel_rfl) (Em QI (Em QI (Em QI (Em QI (Em QI (Em QI (Em QI (Em QI RF.nil))))))))) (λp=>⟨p.1,p.2.1,p.2.2.1,p.2.2.2.1,p.2.2.2.2.1,p.2.2.2.2.2.1,p.2.2.2.2.2.2.1,p.2.2.2.2.2.2.2.1⟩) Zf (λ_ h=>h)).down
def Hand.wf(x:Hand):Prop:=(Qs .i64) x.Bib/\(Qs .i64) x.Position/\(Qs .i64) x.Lo/\(Qs .i64) x.Hi/\True
theorem rd_80(n:Nat):RB prog n 80 Hand Hand.c Hand.wf:=(Q4 (RB.struct underlying80 (by kernel_rfl) (Em QI (Em QI (Em QI (Em QI RF.nil))))) (λp=>⟨p.1,p.2.1,p.2.2.1,p.2.2.2.1⟩) Zf (λ_ h=>h)).down
def Silence.wf(x:Silence):Prop:=(Qs .i64) x.Mat/\(Qs .i64) x.Epoch/\(Qs .i64) x.Lo/\(Qs .i64) x.Hi/\True
theorem rd_82(n:Nat):RB prog n 82 Silence Silence.c Silence.wf:=(Q4 (RB.struct underlying82 (by kernel_rfl) (Em QI (Em QI (Em QI (Em QI RF.nil))))) (λp=>⟨p.1,p.2.1,p.2.2.1,p.2.2.2.1⟩) Zf (λ_ h=>h)).down
def Pair.wf(x:Pair):Prop:=(Qs .i64) x.A/\(Qs .i64) x.B/\True
theorem rd_84(n:Nat):RB prog n 84 Pair Pair.c Pair.wf:=(Q4 (RB.struct underlying84 (by kernel_rfl) (Em QI (Em QI RF.nil))) (λp=>⟨p.1,p.2.1⟩) Zf (λ_ h=>h)).down
def Report.wf(x:Report):Prop:=(Qs .i64) x.Case/\(Qs .i64) x.Bib/\(Qs .i64) x.Offence/\(Qs .i64) x.Position/\True
theorem rd_86(n:Nat):RB prog n 86 Report Report.c Report.wf:=(Q4 (RB.struct underlying86 (by kernel_rfl) (Em QI (Em QI (Em QI (Em QI RF.nil))))) (λp=>⟨p.1,p.2.1,p.2.2.1,p.2.2.2.1⟩) Zf (λ_ h=>h)).down
def Protest.wf(x:Protest):Prop:=(Qs .i64) x.Case/\(Qs .i64) x.By/\(Qs .i64) x.Fee/\(Qs .i64) x.Form/\True
theorem rd_88(n:Nat):RB prog n 88 Protest Protest.c Protest.wf:=(Q4 (RB.struct underlying88 (by kernel_rfl) (Em QI (Em QI (Em QI (Em QI RF.nil))))) (λp=>⟨p.1,p.2.1,p.2.2.1,p.2.2.2.1⟩) Zf (λ_ h=>h)).down
def Ruling.wf(x:Ruling):Prop:=(Qs .i64) x.Case/\(Qs .i64) x.Instance/\(Qs .i64) x.Kind/\(Qs .i64) x.Bib/\(Qs .i64) x.Position/\(Qs .i64) x.Amount/\True
theorem rd_90(n:Nat):RB prog n 90 Ruling Ruling.c Ruling.wf:=(Q4 (RB.struct underlying90 (by kernel_rfl) (Em QI (Em QI (Em QI (Em QI (Em QI (Em QI RF.nil))))))) (λp=>⟨p.1,p.2.1,p.2.2.1,p.2.2.2.1,p.2.2.2.2.1,p.2.2.2.2.2.1⟩) Zf (λ_ h=>h)).down
def Appeal.wf(x:Appeal):Prop:=(Qs .i64) x.Case/\(λ_=>True) x.Suspends/\True
theorem rd_92(n:Nat):RB prog n 92 Appeal Appeal.c Appeal.wf:=(Q4 (RB.struct underlying92 (by kernel_rfl) (Em QI (Em (RB.bool underlying4) RF.nil))) (λp=>⟨p.1,p.2.1⟩) Zf (λ_ h=>h)).down
def Ref.wf(x:Ref):Prop:=(Qs .i64) x.Crew/\(Qs .i64) x.No/\True
theorem rd_94(n:Nat):RB prog n 94 Ref Ref.c Ref.wf:=(Q4 (RB.struct underlying94 (by kernel_rfl) (Em QI (Em QI RF.nil))) (λp=>⟨p.1,p.2.1⟩) Zf (λ_ h=>h)).down
def Fact.wf(x:Fact):Prop:=(Qs .i64) x.Crew/\(Qs .i64) x.No/\(Qs .i64) x.At/\(Qs .i64) x.Kind/\Starter.wf x.Starter/\Read.wf x.Read/\Beacon.wf x.Beacon/\Sync.wf x.Sync/\Hand.wf x.Hand/\Silence.wf x.Silence/\Pair.wf x.Pair/\Report.wf x.Report/\Protest.wf x.Protest/\Ruling.wf x.Ruling/\Appeal.wf x.Appeal/\Ref.wf x.Void/\True
theorem rd_96(n:Nat):RB prog n 96 Fact Fact.c Fact.wf:=(Q4 (RB.struct underlying96 (by kernel_rfl) (Em QI (Em QI (Em QI (Em QI (El (k:=8) rfl (by kernel_rfl) (rd_72 n) (El (k:=4) rfl (by kernel_rfl) (rd_74 n) (El (k:=5) rfl (by kernel_rfl) (rd_76 n) (El (k:=8) rfl (by kernel_rfl) (rd_78 n) (El (k:=4) rfl (by kernel_rfl) (rd_80 n) (El (k:=4) rfl (by kernel_rfl) (rd_82 n) (El (k:=2) rfl (by kernel_rfl) (rd_84 n) (El (k:=4) rfl (by kernel_rfl) (rd_86 n) (El (k:=4) rfl (by kernel_rfl) (rd_88 n) (El (k:=6) rfl (by kernel_rfl) (rd_90 n) (El (k:=2) rfl (by kernel_rfl) (rd_92 n) (El (k:=2) rfl (by kernel_rfl) (rd_94 n) RF.nil))))))))))))))))) (λp=>⟨p.1,p.2.1,p.2.2.1,p.2.2.2.1,p.2.2.2.2.1,p.2.2.2.2.2.1,p.2.2.2.2.2.2.1,p.2.2.2.2.2.2.2.1,p.2.2.2.2.2.2.2.2.1,p.2.2.2.2.2.2.2.2.2.1,p.2.2.2.2.2.2.2.2.2.2.1,p.2.2.2.2.2.2.2.2.2.2.2.1,p.2.2.2.2.2.2.2.2.2.2.2.2.1,p.2.2.2.2.2.2.2.2.2.2.2.2.2.1,p.2.2.2.2.2.2.2.2.2.2.2.2.2.2.1,p.2.2.2.2.2.2.2.2.2.2.2.2.2.2.2.1⟩) Zf (λ_ h=>h)).down
end Go.Sw
