/- How the arguments of ProtestsAdmissibleSpec are read. -/
import Derived.Test.YtbhpipneolcmkaaGreatDoorW21AdA
set_option linter.unusedVariables false
set_option linter.unusedSimpArgs false
set_option maxRecDepth 100000
set_option maxHeartbeats 4000000
namespace Go.Sw
open Go.Proofs Tryz
def Mat.wf(x:Mat):Prop:=(λs=>s.length<=1048576) x.Name/\(Qs .i64) x.Kind/\True
theorem rd_79(n:Nat):RB prog n 79 Mat Mat.c Mat.wf:=(Ya (RB.struct underlying79 (by kernel_rfl) (El (RB.string Gh) (El QL RF.nil))) (λp=>⟨p.1,p.2.1⟩) Zf (λ_ h=>h)).down
def Leg.wf(x:Leg):Prop:=(Qs .i64) x.From/\(Qs .i64) x.To/\(Qs .i64) x.Min/\(Qs .i64) x.Max/\True
theorem Qq8(n:Nat):RB prog n 113 Leg Leg.c Leg.wf:=(Ya (RB.struct underlying113 (by kernel_rfl) (El QL (El QL (El QL (El QL RF.nil))))) (λp=>⟨p.1,p.2.1,p.2.2.1,p.2.2.2.1⟩) Zf (λ_ h=>h)).down
mutual
def Part.wf:Part->Prop
  |⟨x0,x1,x2⟩=>((Qs .i64) x0)/\((Qs .i64) x1)/\(x2.length<=1048576/\Part.wfs x2)/\True
def Part.wfs:List Part->Prop
  |[]=>True
  |x::l=>Part.wf x/\Part.wfs l
end
theorem Qd8(l:List Part):Part.wfs l↔ ∀x∈l,Part.wf x:=by
  induction l with
  |nil=>simp[Part.wfs]
  |cons x l ih=>simp[Part.wfs,ih]
theorem Qq9:∀n,RB prog n 111 Part Part.enc Part.wf:=Qfx (λn ih=>Ya (RB.struct underlying111 (by kernel_rfl) (El QL (El QL (El (RB.slice (k:=3) underlying74 (by kernel_rfl) rfl (λx=>by rw[Yb];rfl) ih).down RF.nil)))) (λp=>⟨p.1,p.2.1,p.2.2.1⟩) (λp=>by simp[Part.enc,Qd9,Qe,Qbk,JW,QlI]) (λp h=>by simpa[Part.wf,Qd8]using h))
def Cutoff.wf(x:Cutoff):Prop:=(Qs .i64) x.Mat/\(Qs .i64) x.Lap/\(Qs .i64) x.Limit/\True
theorem Qq2(n:Nat):RB prog n 166 Cutoff Cutoff.c Cutoff.wf:=(Ya (RB.struct underlying166 (by kernel_rfl) (El QL (El QL (El QL RF.nil)))) (λp=>⟨p.1,p.2.1,p.2.2.1⟩) Zf (λ_ h=>h)).down
def Distance.wf(x:Distance):Prop:=(λs=>s.length<=1048576) x.Name/\(λl=>l.length<=1048576/\ ∀x∈l,Part.wf x) x.Route/\(Qs .i64) x.Timing/\(λl=>l.length<=1048576/\ ∀x∈l,Cutoff.wf x) x.Cutoffs/\(Qs .i64) x.Extra/\True
theorem rd_77(n:Nat):RB prog n 77 Distance Distance.c Distance.wf:=(Ya (RB.struct underlying77 (by kernel_rfl) (El (RB.string Gh) (El (RB.slice (k:=3) underlying74 (by kernel_rfl) rfl (λx=>by rw[Yb];rfl) (Qq9 n)).down (El QL (El (RB.slice (k:=3) underlying75 (by kernel_rfl) rfl Zf (Qq2 n)).down (El QL RF.nil)))))) (λp=>⟨p.1,p.2.1,p.2.2.1,p.2.2.2.1,p.2.2.2.2.1⟩) Zf (λ_ h=>h)).down
def Wave.wf(x:Wave):Prop:=(λs=>s.length<=1048576) x.Name/\(Qs .i64) x.Gun/\True
theorem Qq7(n:Nat):RB prog n 115 Wave Wave.c Wave.wf:=(Ya (RB.struct underlying115 (by kernel_rfl) (El (RB.string Gh) (El QL RF.nil))) (λp=>⟨p.1,p.2.1⟩) Zf (λ_ h=>h)).down
def Offence.wf(x:Offence):Prop:=(λs=>s.length<=1048576) x.Name/\(Qs .i64) x.Time/\(Qs .i64) x.Laps/\(λ_=>True) x.Out/\True
theorem Qq4(n:Nat):RB prog n 156 Offence Offence.c Offence.wf:=(Ya (RB.struct underlying156 (by kernel_rfl) (El (RB.string Gh) (El QL (El QL (El (RB.bool underlying4) RF.nil))))) (λp=>⟨p.1,p.2.1,p.2.2.1,p.2.2.2.1⟩) Zf (λ_ h=>h)).down
def Category.wf(x:Category):Prop:=(λs=>s.length<=1048576) x.Name/\(Qs .i64) x.From/\(Qs .i64) x.To/\True
theorem Qq3(n:Nat):RB prog n 160 Category Category.c Category.wf:=(Ya (RB.struct underlying160 (by kernel_rfl) (El (RB.string Gh) (El QL (El QL RF.nil)))) (λp=>⟨p.1,p.2.1,p.2.2.1⟩) Zf (λ_ h=>h)).down
def Prize.wf(x:Prize):Prop:=(Qs .i64) x.Distance/\(Qs .i64) x.Category/\(Qs .i64) x.Rank/\(Qs .i64) x.Amount/\True
theorem Qq1(n:Nat):RB prog n 172 Prize Prize.c Prize.wf:=(Ya (RB.struct underlying172 (by kernel_rfl) (El QL (El QL (El QL (El QL RF.nil))))) (λp=>⟨p.1,p.2.1,p.2.2.1,p.2.2.2.1⟩) Zf (λ_ h=>h)).down
mutual
def Cond.wf:Cond->Prop
  |⟨x0,x1,x2,x3⟩=>((Qs .i64) x0)/\((Qs .i64) x1)/\((Qs .i64) x2)/\(x3.length<=1048576/\Cond.wfs x3)/\True
def Cond.wfs:List Cond->Prop
  |[]=>True
  |x::l=>Cond.wf x/\Cond.wfs l
end
theorem Qee(l:List Cond):Cond.wfs l↔ ∀x∈l,Cond.wf x:=by
  induction l with
  |nil=>simp[Cond.wfs]
  |cons x l ih=>simp[Cond.wfs,ih]
theorem Qq6:∀n,RB prog n 118 Cond Cond.enc Cond.wf:=Qfx (λn ih=>Ya (RB.struct underlying118 (by kernel_rfl) (El QL (El QL (El QL (El (RB.slice (k:=4) underlying116 (by kernel_rfl) rfl (λx=>by rw[Jw];rfl) ih).down RF.nil))))) (λp=>⟨p.1,p.2.1,p.2.2.1,p.2.2.2.1⟩) (λp=>by simp[Cond.enc,Qef,Qe,Qbk,JW,QlI]) (λp h=>by simpa[Cond.wf,Qee]using h))
mutual
def Step.wf:Step->Prop
  |⟨x0,x1,x2,x3,x4⟩=>((Qs .i64) x0)/\((Qs .i64) x1)/\(Cond.wf x2)/\(x3.length<=1048576/\Step.wfs x3)/\(x4.length<=1048576/\Step.wfs x4)/\True
def Step.wfs:List Step->Prop
  |[]=>True
  |x::l=>Step.wf x/\Step.wfs l
end
theorem Qd2(l:List Step):Step.wfs l↔ ∀x∈l,Step.wf x:=by
  induction l with
  |nil=>simp[Step.wfs]
  |cons x l ih=>simp[Step.wfs,ih]
theorem Qq5:∀n,RB prog n 120 Step Step.enc Step.wf:=Qfx (λn ih=>Ya (RB.struct underlying120 (by kernel_rfl) (El QL (El QL (Ek (k:=4) rfl (by kernel_rfl) (Qq6 n) (El (RB.slice (k:=8) GJ (by kernel_rfl) rfl (λx=>by rw[Yq];rfl) ih).down (El (RB.slice (k:=8) GJ (by kernel_rfl) rfl (λx=>by rw[Yq];rfl) ih).down RF.nil)))))) (λp=>⟨p.1,p.2.1,p.2.2.1,p.2.2.2.1,p.2.2.2.2.1⟩) (λp=>by simp[Step.enc,Qd3,Qe,Qbk,JW,QlI,Jw,Cond.c]) (λp h=>by simpa[Step.wf,Qd2]using h))
def Faults.wf(x:Faults):Prop:=(Qs .i64) x.Misses/\(Qs .i64) x.Strays/\(Qs .i64) x.Window/\(Qs .i64) x.Residual/\(Qs .i64) x.Drift/\True
theorem rd_31(n:Nat):RB prog n 31 Faults Faults.c Faults.wf:=(Ya (RB.struct underlying31 (by kernel_rfl) (El QL (El QL (El QL (El QL (El QL RF.nil)))))) (λp=>⟨p.1,p.2.1,p.2.2.1,p.2.2.2.1,p.2.2.2.2.1⟩) Zf (λ_ h=>h)).down
def Course.wf(x:Course):Prop:=(λs=>s.length<=1048576) x.Name/\(λl=>l.length<=1048576/\ ∀x∈l,Mat.wf x) x.Mats/\(λl=>l.length<=1048576/\ ∀x∈l,Leg.wf x) x.Legs/\(λl=>l.length<=1048576/\ ∀x∈l,Distance.wf x) x.Distances/\(λl=>l.length<=1048576/\ ∀x∈l,Wave.wf x) x.Waves/\(λl=>l.length<=1048576/\ ∀x∈l,Offence.wf x) x.Offences/\(λl=>l.length<=1048576/\ ∀x∈l,Category.wf x) x.Categories/\(λl=>l.length<=1048576/\ ∀x∈l,Prize.wf x) x.Prizes/\(λl=>l.length<=1048576/\ ∀x∈l,Step.wf x) x.Ties/\Faults.wf x.Faults/\(Qs .i64) x.Fee/\(Qs .i64) x.Deadline/\True
theorem rd_33(n:Nat):RB prog n 33 Course Course.c Course.wf:=(Ya (RB.struct underlying33 (by kernel_rfl) (El (RB.string Gh) (El (RB.slice (k:=2) underlying22 (by kernel_rfl) rfl Zf (rd_79 n)).down (El (RB.slice (k:=4) underlying23 (by kernel_rfl) rfl Zf (Qq8 n)).down (El (RB.slice (k:=5) underlying24 (by kernel_rfl) rfl Zf (rd_77 n)).down (El (RB.slice (k:=2) underlying25 (by kernel_rfl) rfl Zf (Qq7 n)).down (El (RB.slice (k:=4) underlying26 (by kernel_rfl) rfl Zf (Qq4 n)).down (El (RB.slice (k:=3) underlying27 (by kernel_rfl) rfl Zf (Qq3 n)).down (El (RB.slice (k:=4) underlying28 (by kernel_rfl) rfl Zf (Qq1 n)).down (El (RB.slice (k:=8) GJ (by kernel_rfl) rfl (λx=>by rw[Yq];rfl) (Qq5 n)).down (Ek (k:=5) rfl (by kernel_rfl) (rd_31 n) (El QL (El QL RF.nil))))))))))))) (λp=>⟨p.1,p.2.1,p.2.2.1,p.2.2.2.1,p.2.2.2.2.1,p.2.2.2.2.2.1,p.2.2.2.2.2.2.1,p.2.2.2.2.2.2.2.1,p.2.2.2.2.2.2.2.2.1,p.2.2.2.2.2.2.2.2.2.1,p.2.2.2.2.2.2.2.2.2.2.1,p.2.2.2.2.2.2.2.2.2.2.2.1⟩) Zf (λ_ h=>h)).down
def Starter.wf(x:Starter):Prop:=(Qs .i64) x.Bib/\(Qs .i64) x.Distance/\(Qs .i64) x.Wave/\(Qs .i64) x.Slot/\(Qs .i64) x.Age/\(Qs .i64) x.Chip/\(Qs .i64) x.Team/\(Qs .i64) x.Lot/\True
theorem rd_46(n:Nat):RB prog n 46 Starter Starter.c Starter.wf:=(Ya (RB.struct underlying46 (by kernel_rfl) (El QL (El QL (El QL (El QL (El QL (El QL (El QL (El QL RF.nil))))))))) (λp=>⟨p.1,p.2.1,p.2.2.1,p.2.2.2.1,p.2.2.2.2.1,p.2.2.2.2.2.1,p.2.2.2.2.2.2.1,p.2.2.2.2.2.2.2.1⟩) Zf (λ_ h=>h)).down
def Read.wf(x:Read):Prop:=(Qs .i64) x.Mat/\(Qs .i64) x.Epoch/\(Qs .i64) x.Chip/\(Qs .i64) x.Local/\True
theorem rd_48(n:Nat):RB prog n 48 Read Read.c Read.wf:=(Ya (RB.struct underlying48 (by kernel_rfl) (El QL (El QL (El QL (El QL RF.nil))))) (λp=>⟨p.1,p.2.1,p.2.2.1,p.2.2.2.1⟩) Zf (λ_ h=>h)).down
def Beacon.wf(x:Beacon):Prop:=(Qs .i64) x.Mat/\(Qs .i64) x.Epoch/\(Qs .i64) x.Local/\(Qs .i64) x.True/\(Qs .i64) x.Err/\_root_.True
theorem rd_50(n:Nat):RB prog n 50 Beacon Beacon.c Beacon.wf:=(Ya (RB.struct underlying50 (by kernel_rfl) (El QL (El QL (El QL (El QL (El QL RF.nil)))))) (λp=>⟨p.1,p.2.1,p.2.2.1,p.2.2.2.1,p.2.2.2.2.1⟩) Zf (λ_ h=>h)).down
def Sync.wf(x:Sync):Prop:=(Qs .i64) x.MatA/\(Qs .i64) x.EpochA/\(Qs .i64) x.LocalA/\(Qs .i64) x.MatB/\(Qs .i64) x.EpochB/\(Qs .i64) x.LocalB/\(Qs .i64) x.Min/\(Qs .i64) x.Max/\True
theorem rd_52(n:Nat):RB prog n 52 Sync Sync.c Sync.wf:=(Ya (RB.struct underlying52 (by kernel_rfl) (El QL (El QL (El QL (El QL (El QL (El QL (El QL (El QL RF.nil))))))))) (λp=>⟨p.1,p.2.1,p.2.2.1,p.2.2.2.1,p.2.2.2.2.1,p.2.2.2.2.2.1,p.2.2.2.2.2.2.1,p.2.2.2.2.2.2.2.1⟩) Zf (λ_ h=>h)).down
def Hand.wf(x:Hand):Prop:=(Qs .i64) x.Bib/\(Qs .i64) x.Position/\(Qs .i64) x.Lo/\(Qs .i64) x.Hi/\True
theorem rd_54(n:Nat):RB prog n 54 Hand Hand.c Hand.wf:=(Ya (RB.struct underlying54 (by kernel_rfl) (El QL (El QL (El QL (El QL RF.nil))))) (λp=>⟨p.1,p.2.1,p.2.2.1,p.2.2.2.1⟩) Zf (λ_ h=>h)).down
def Silence.wf(x:Silence):Prop:=(Qs .i64) x.Mat/\(Qs .i64) x.Epoch/\(Qs .i64) x.Lo/\(Qs .i64) x.Hi/\True
theorem rd_56(n:Nat):RB prog n 56 Silence Silence.c Silence.wf:=(Ya (RB.struct underlying56 (by kernel_rfl) (El QL (El QL (El QL (El QL RF.nil))))) (λp=>⟨p.1,p.2.1,p.2.2.1,p.2.2.2.1⟩) Zf (λ_ h=>h)).down
def Pair.wf(x:Pair):Prop:=(Qs .i64) x.A/\(Qs .i64) x.B/\True
theorem rd_58(n:Nat):RB prog n 58 Pair Pair.c Pair.wf:=(Ya (RB.struct underlying58 (by kernel_rfl) (El QL (El QL RF.nil))) (λp=>⟨p.1,p.2.1⟩) Zf (λ_ h=>h)).down
def Report.wf(x:Report):Prop:=(Qs .i64) x.Case/\(Qs .i64) x.Bib/\(Qs .i64) x.Offence/\(Qs .i64) x.Position/\True
theorem rd_60(n:Nat):RB prog n 60 Report Report.c Report.wf:=(Ya (RB.struct underlying60 (by kernel_rfl) (El QL (El QL (El QL (El QL RF.nil))))) (λp=>⟨p.1,p.2.1,p.2.2.1,p.2.2.2.1⟩) Zf (λ_ h=>h)).down
def Protest.wf(x:Protest):Prop:=(Qs .i64) x.Case/\(Qs .i64) x.By/\(Qs .i64) x.Fee/\(Qs .i64) x.Form/\True
theorem rd_36(n:Nat):RB prog n 36 Protest Protest.c Protest.wf:=(Ya (RB.struct underlying36 (by kernel_rfl) (El QL (El QL (El QL (El QL RF.nil))))) (λp=>⟨p.1,p.2.1,p.2.2.1,p.2.2.2.1⟩) Zf (λ_ h=>h)).down
def Ruling.wf(x:Ruling):Prop:=(Qs .i64) x.Case/\(Qs .i64) x.Instance/\(Qs .i64) x.Kind/\(Qs .i64) x.Bib/\(Qs .i64) x.Position/\(Qs .i64) x.Amount/\True
theorem rd_62(n:Nat):RB prog n 62 Ruling Ruling.c Ruling.wf:=(Ya (RB.struct underlying62 (by kernel_rfl) (El QL (El QL (El QL (El QL (El QL (El QL RF.nil))))))) (λp=>⟨p.1,p.2.1,p.2.2.1,p.2.2.2.1,p.2.2.2.2.1,p.2.2.2.2.2.1⟩) Zf (λ_ h=>h)).down
def Appeal.wf(x:Appeal):Prop:=(Qs .i64) x.Case/\(λ_=>True) x.Suspends/\True
theorem rd_64(n:Nat):RB prog n 64 Appeal Appeal.c Appeal.wf:=(Ya (RB.struct underlying64 (by kernel_rfl) (El QL (El (RB.bool underlying4) RF.nil))) (λp=>⟨p.1,p.2.1⟩) Zf (λ_ h=>h)).down
def Ref.wf(x:Ref):Prop:=(Qs .i64) x.Crew/\(Qs .i64) x.No/\True
theorem rd_66(n:Nat):RB prog n 66 Ref Ref.c Ref.wf:=(Ya (RB.struct Gy (by kernel_rfl) (El QL (El QL RF.nil))) (λp=>⟨p.1,p.2.1⟩) Zf (λ_ h=>h)).down
def Fact.wf(x:Fact):Prop:=(Qs .i64) x.Crew/\(Qs .i64) x.No/\(Qs .i64) x.At/\(Qs .i64) x.Kind/\Starter.wf x.Starter/\Read.wf x.Read/\Beacon.wf x.Beacon/\Sync.wf x.Sync/\Hand.wf x.Hand/\Silence.wf x.Silence/\Pair.wf x.Pair/\Report.wf x.Report/\Protest.wf x.Protest/\Ruling.wf x.Ruling/\Appeal.wf x.Appeal/\Ref.wf x.Void/\True
theorem QqP(n:Nat):RB prog n 68 Fact Fact.c Fact.wf:=(Ya (RB.struct underlying68 (by kernel_rfl) (El QL (El QL (El QL (El QL (Ek (k:=8) rfl (by kernel_rfl) (rd_46 n) (Ek (k:=4) rfl (by kernel_rfl) (rd_48 n) (Ek (k:=5) rfl (by kernel_rfl) (rd_50 n) (Ek (k:=8) rfl (by kernel_rfl) (rd_52 n) (Ek (k:=4) rfl (by kernel_rfl) (rd_54 n) (Ek (k:=4) rfl (by kernel_rfl) (rd_56 n) (Ek (k:=2) rfl (by kernel_rfl) (rd_58 n) (Ek (k:=4) rfl (by kernel_rfl) (rd_60 n) (Ek (k:=4) rfl (by kernel_rfl) (rd_36 n) (Ek (k:=6) rfl (by kernel_rfl) (rd_62 n) (Ek (k:=2) rfl (by kernel_rfl) (rd_64 n) (Ek (k:=2) rfl (by kernel_rfl) (rd_66 n) RF.nil))))))))))))))))) (λp=>⟨p.1,p.2.1,p.2.2.1,p.2.2.2.1,p.2.2.2.2.1,p.2.2.2.2.2.1,p.2.2.2.2.2.2.1,p.2.2.2.2.2.2.2.1,p.2.2.2.2.2.2.2.2.1,p.2.2.2.2.2.2.2.2.2.1,p.2.2.2.2.2.2.2.2.2.2.1,p.2.2.2.2.2.2.2.2.2.2.2.1,p.2.2.2.2.2.2.2.2.2.2.2.2.1,p.2.2.2.2.2.2.2.2.2.2.2.2.2.1,p.2.2.2.2.2.2.2.2.2.2.2.2.2.2.1,p.2.2.2.2.2.2.2.2.2.2.2.2.2.2.2.1⟩) Zf (λ_ h=>h)).down
end Go.Sw
