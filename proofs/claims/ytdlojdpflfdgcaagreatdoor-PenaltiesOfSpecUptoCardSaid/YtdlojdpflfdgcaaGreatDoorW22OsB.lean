/- How the arguments of PenaltiesOfSpec are read. -/
import Derived.Test.YtdlojdpflfdgcaaGreatDoorW22OsA
set_option linter.unusedVariables false
set_option linter.unusedSimpArgs false
set_option maxRecDepth 100000
set_option maxHeartbeats 4000000
namespace Go.Sw
variable (n:Nat)
open Go.Proofs Tryz
def Mat.wf(x:Mat):Prop:=(λs=>s.length<=1048576) x.Name/\(Qp .i64) x.Kind/\True
theorem uh:RB prog n 116 Mat Mat.c Mat.wf:=(Q8 (RB.struct underlying116 (by kernel_rfl) (Em (RB.string Gk) (Em QL RF.nil))) (λp=>⟨p.1,p.2.1⟩) Zf (λ_ h=>h)).down
def BE.wf(x:BE):Prop:=(Qp .i64) x.From/\(Qp .i64) x.To/\(Qp .i64) x.Min/\(Qp .i64) x.Max/\True
theorem ui:RB prog n 118 BE BE.c BE.wf:=(Q8 (RB.struct underlying118 (by kernel_rfl) (Em QL (Em QL (Em QL (Em QL RF.nil))))) (λp=>⟨p.1,p.2.1,p.2.2.1,p.2.2.2.1⟩) Zf (λ_ h=>h)).down
mutual
def AF.wf:AF->Prop
  |⟨x0,x1,x2⟩=>((Qp .i64) x0)/\((Qp .i64) x1)/\(x2.length<=1048576/\AF.wfs x2)/\True
def AF.wfs:AA AF->Prop
  |[]=>True
  |x::l=>AF.wf x/\AF.wfs l
end
theorem tH(l:AA AF):AF.wfs l↔ ∀x∈l,AF.wf x:=by
  induction l with
  |nil=>simp[AF.wfs]
  |cons x l ih=>simp[AF.wfs,ih]
theorem uj:∀n,RB prog n 120 AF AF.enc AF.wf:=bH (λn ih=>Q8 (RB.struct underlying120 (by kernel_rfl) (Em QL (Em QL (Em (RB.slice (k:=3) underlying97 (by kernel_rfl) rfl (λx=>by rw[QP];rfl) ih).down RF.nil)))) (λp=>⟨p.1,p.2.1,p.2.2.1⟩) (λp=>by simp[AF.enc,tG,Qc,Dg,JZ,V_]) (λp h=>by simpa[AF.wf,tH]using h))
def AP.wf(x:AP):Prop:=(Qp .i64) x.Mat/\(Qp .i64) x.Lap/\(Qp .i64) x.Limit/\True
theorem ul:RB prog n 193 AP AP.c AP.wf:=(Q8 (RB.struct underlying193 (by kernel_rfl) (Em QL (Em QL (Em QL RF.nil)))) (λp=>⟨p.1,p.2.1,p.2.2.1⟩) Zf (λ_ h=>h)).down
def Distance.wf(x:Distance):Prop:=(λs=>s.length<=1048576) x.Name/\(λl=>l.length<=1048576/\ ∀x∈l,AF.wf x) x.Route/\(Qp .i64) x.Timing/\(λl=>l.length<=1048576/\ ∀x∈l,AP.wf x) x.Cutoffs/\(Qp .i64) x.Extra/\True
theorem uc:RB prog n 100 Distance Distance.c Distance.wf:=(Q8 (RB.struct underlying100 (by kernel_rfl) (Em (RB.string Gk) (Em (RB.slice (k:=3) underlying97 (by kernel_rfl) rfl (λx=>by rw[QP];rfl) (uj n)).down (Em QL (Em (RB.slice (k:=3) underlying98 (by kernel_rfl) rfl Zf (ul n)).down (Em QL RF.nil)))))) (λp=>⟨p.1,p.2.1,p.2.2.1,p.2.2.2.1,p.2.2.2.2.1⟩) Zf (λ_ h=>h)).down
def Wave.wf(x:Wave):Prop:=(λs=>s.length<=1048576) x.Name/\(Qp .i64) x.Gun/\True
theorem uf:RB prog n 112 Wave Wave.c Wave.wf:=(Q8 (RB.struct underlying112 (by kernel_rfl) (Em (RB.string Gk) (Em QL RF.nil))) (λp=>⟨p.1,p.2.1⟩) Zf (λ_ h=>h)).down
def Offence.wf(x:Offence):Prop:=(λs=>s.length<=1048576) x.Name/\(Qp .i64) x.Time/\(Qp .i64) x.Laps/\(λ_=>True) x.Out/\True
theorem ug:RB prog n 114 Offence Offence.c Offence.wf:=(Q8 (RB.struct underlying114 (by kernel_rfl) (Em (RB.string Gk) (Em QL (Em QL (Em (RB.bool underlying4) RF.nil))))) (λp=>⟨p.1,p.2.1,p.2.2.1,p.2.2.2.1⟩) Zf (λ_ h=>h)).down
def Category.wf(x:Category):Prop:=(λs=>s.length<=1048576) x.Name/\(Qp .i64) x.From/\(Qp .i64) x.To/\True
theorem uk:RB prog n 187 Category Category.c Category.wf:=(Q8 (RB.struct underlying187 (by kernel_rfl) (Em (RB.string Gk) (Em QL (Em QL RF.nil)))) (λp=>⟨p.1,p.2.1,p.2.2.1⟩) Zf (λ_ h=>h)).down
def AW.wf(x:AW):Prop:=(Qp .i64) x.Distance/\(Qp .i64) x.Category/\(Qp .i64) x.Rank/\(Qp .i64) x.Amount/\True
theorem um:RB prog n 199 AW AW.c AW.wf:=(Q8 (RB.struct underlying199 (by kernel_rfl) (Em QL (Em QL (Em QL (Em QL RF.nil))))) (λp=>⟨p.1,p.2.1,p.2.2.1,p.2.2.2.1⟩) Zf (λ_ h=>h)).down
mutual
def Cond.wf:Cond->Prop
  |⟨x0,x1,x2,x3⟩=>((Qp .i64) x0)/\((Qp .i64) x1)/\((Qp .i64) x2)/\(x3.length<=1048576/\Cond.wfs x3)/\True
def Cond.wfs:AA Cond->Prop
  |[]=>True
  |x::l=>Cond.wf x/\Cond.wfs l
end
theorem tE(l:AA Cond):Cond.wfs l↔ ∀x∈l,Cond.wf x:=by
  induction l with
  |nil=>simp[Cond.wfs]
  |cons x l ih=>simp[Cond.wfs,ih]
theorem ud:∀n,RB prog n 108 Cond Cond.enc Cond.wf:=bH (λn ih=>Q8 (RB.struct underlying108 (by kernel_rfl) (Em QL (Em QL (Em QL (Em (RB.slice (k:=4) underlying106 (by kernel_rfl) rfl (λx=>by rw[W3];rfl) ih).down RF.nil))))) (λp=>⟨p.1,p.2.1,p.2.2.1,p.2.2.2.1⟩) (λp=>by simp[Cond.enc,tD,Qc,Dg,JZ,V_]) (λp h=>by simpa[Cond.wf,tE]using h))
mutual
def Step.wf:Step->Prop
  |⟨x0,x1,x2,x3,x4⟩=>((Qp .i64) x0)/\((Qp .i64) x1)/\(Cond.wf x2)/\(x3.length<=1048576/\Step.wfs x3)/\(x4.length<=1048576/\Step.wfs x4)/\True
def Step.wfs:AA Step->Prop
  |[]=>True
  |x::l=>Step.wf x/\Step.wfs l
end
theorem sy(l:AA Step):Step.wfs l↔ ∀x∈l,Step.wf x:=by
  induction l with
  |nil=>simp[Step.wfs]
  |cons x l ih=>simp[Step.wfs,ih]
theorem ue:∀n,RB prog n 110 Step Step.enc Step.wf:=bH (λn ih=>Q8 (RB.struct underlying110 (by kernel_rfl) (Em QL (Em QL (El (k:=4) rfl (by kernel_rfl) (ud n) (Em (RB.slice (k:=8) GQ (by kernel_rfl) rfl (λx=>by rw[YX];rfl) ih).down (Em (RB.slice (k:=8) GQ (by kernel_rfl) rfl (λx=>by rw[YX];rfl) ih).down RF.nil)))))) (λp=>⟨p.1,p.2.1,p.2.2.1,p.2.2.2.1,p.2.2.2.2.1⟩) (λp=>by simp[Step.enc,sx,Qc,Dg,JZ,V_,W3,Cond.c]) (λp h=>by simpa[Step.wf,sy]using h))
def Faults.wf(x:Faults):Prop:=(Qp .i64) x.Misses/\(Qp .i64) x.Strays/\(Qp .i64) x.Window/\(Qp .i64) x.Residual/\(Qp .i64) x.Drift/\True
theorem Te:RB prog n 31 Faults Faults.c Faults.wf:=(Q8 (RB.struct underlying31 (by kernel_rfl) (Em QL (Em QL (Em QL (Em QL (Em QL RF.nil)))))) (λp=>⟨p.1,p.2.1,p.2.2.1,p.2.2.2.1,p.2.2.2.2.1⟩) Zf (λ_ h=>h)).down
def AE.wf(x:AE):Prop:=(λs=>s.length<=1048576) x.Name/\(λl=>l.length<=1048576/\ ∀x∈l,Mat.wf x) x.Mats/\(λl=>l.length<=1048576/\ ∀x∈l,BE.wf x) x.Legs/\(λl=>l.length<=1048576/\ ∀x∈l,Distance.wf x) x.Distances/\(λl=>l.length<=1048576/\ ∀x∈l,Wave.wf x) x.Waves/\(λl=>l.length<=1048576/\ ∀x∈l,Offence.wf x) x.Offences/\(λl=>l.length<=1048576/\ ∀x∈l,Category.wf x) x.Categories/\(λl=>l.length<=1048576/\ ∀x∈l,AW.wf x) x.Prizes/\(λl=>l.length<=1048576/\ ∀x∈l,Step.wf x) x.Ties/\Faults.wf x.Faults/\(Qp .i64) x.Fee/\(Qp .i64) x.Deadline/\True
theorem Td:RB prog n 33 AE AE.c AE.wf:=(Q8 (RB.struct underlying33 (by kernel_rfl) (Em (RB.string Gk) (Em (RB.slice (k:=2) underlying22 (by kernel_rfl) rfl Zf (uh n)).down (Em (RB.slice (k:=4) underlying23 (by kernel_rfl) rfl Zf (ui n)).down (Em (RB.slice (k:=5) underlying24 (by kernel_rfl) rfl Zf (uc n)).down (Em (RB.slice (k:=2) underlying25 (by kernel_rfl) rfl Zf (uf n)).down (Em (RB.slice (k:=4) underlying26 (by kernel_rfl) rfl Zf (ug n)).down (Em (RB.slice (k:=3) underlying27 (by kernel_rfl) rfl Zf (uk n)).down (Em (RB.slice (k:=4) underlying28 (by kernel_rfl) rfl Zf (um n)).down (Em (RB.slice (k:=8) GQ (by kernel_rfl) rfl (λx=>by rw[YX];rfl) (ue n)).down (El (k:=5) rfl (by kernel_rfl) (Te n) (Em QL (Em QL RF.nil))))))))))))) (λp=>⟨p.1,p.2.1,p.2.2.1,p.2.2.2.1,p.2.2.2.2.1,p.2.2.2.2.2.1,p.2.2.2.2.2.2.1,p.2.2.2.2.2.2.2.1,p.2.2.2.2.2.2.2.2.1,p.2.2.2.2.2.2.2.2.2.1,p.2.2.2.2.2.2.2.2.2.2.1,p.2.2.2.2.2.2.2.2.2.2.2.1⟩) Zf (λ_ h=>h)).down
def Starter.wf(x:Starter):Prop:=(Qp .i64) x.Bib/\(Qp .i64) x.Distance/\(Qp .i64) x.Wave/\(Qp .i64) x.Slot/\(Qp .i64) x.Age/\(Qp .i64) x.Chip/\(Qp .i64) x.Team/\(Qp .i64) x.Lot/\True
theorem Tc:RB prog n 48 Starter Starter.c Starter.wf:=(Q8 (RB.struct underlying48 (by kernel_rfl) (Em QL (Em QL (Em QL (Em QL (Em QL (Em QL (Em QL (Em QL RF.nil))))))))) (λp=>⟨p.1,p.2.1,p.2.2.1,p.2.2.2.1,p.2.2.2.2.1,p.2.2.2.2.2.1,p.2.2.2.2.2.2.1,p.2.2.2.2.2.2.2.1⟩) Zf (λ_ h=>h)).down
def Read.wf(x:Read):Prop:=(Qp .i64) x.Mat/\(Qp .i64) x.Epoch/\(Qp .i64) x.Chip/\(Qp .i64) x.Local/\True
theorem Tb:RB prog n 50 Read Read.c Read.wf:=(Q8 (RB.struct underlying50 (by kernel_rfl) (Em QL (Em QL (Em QL (Em QL RF.nil))))) (λp=>⟨p.1,p.2.1,p.2.2.1,p.2.2.2.1⟩) Zf (λ_ h=>h)).down
def Beacon.wf(x:Beacon):Prop:=(Qp .i64) x.Mat/\(Qp .i64) x.Epoch/\(Qp .i64) x.Local/\(Qp .i64) x.True/\(Qp .i64) x.Err/\_root_.True
theorem Ta:RB prog n 52 Beacon Beacon.c Beacon.wf:=(Q8 (RB.struct underlying52 (by kernel_rfl) (Em QL (Em QL (Em QL (Em QL (Em QL RF.nil)))))) (λp=>⟨p.1,p.2.1,p.2.2.1,p.2.2.2.1,p.2.2.2.2.1⟩) Zf (λ_ h=>h)).down
def Sync.wf(x:Sync):Prop:=(Qp .i64) x.MatA/\(Qp .i64) x.EpochA/\(Qp .i64) x.LocalA/\(Qp .i64) x.MatB/\(Qp .i64) x.EpochB/\(Qp .i64) x.LocalB/\(Qp .i64) x.Min/\(Qp .i64) x.Max/\True
theorem TZ:RB prog n 54 Sync Sync.c Sync.wf:=(Q8 (RB.struct underlying54 (by kernel_rfl) (Em QL (Em QL (Em QL (Em QL (Em QL (Em QL (Em QL (Em QL RF.nil))))))))) (λp=>⟨p.1,p.2.1,p.2.2.1,p.2.2.2.1,p.2.2.2.2.1,p.2.2.2.2.2.1,p.2.2.2.2.2.2.1,p.2.2.2.2.2.2.2.1⟩) Zf (λ_ h=>h)).down
def Hand.wf(x:Hand):Prop:=(Qp .i64) x.Bib/\(Qp .i64) x.Position/\(Qp .i64) x.Lo/\(Qp .i64) x.Hi/\True
theorem TY:RB prog n 56 Hand Hand.c Hand.wf:=(Q8 (RB.struct underlying56 (by kernel_rfl) (Em QL (Em QL (Em QL (Em QL RF.nil))))) (λp=>⟨p.1,p.2.1,p.2.2.1,p.2.2.2.1⟩) Zf (λ_ h=>h)).down
def Silence.wf(x:Silence):Prop:=(Qp .i64) x.Mat/\(Qp .i64) x.Epoch/\(Qp .i64) x.Lo/\(Qp .i64) x.Hi/\True
theorem TX:RB prog n 58 Silence Silence.c Silence.wf:=(Q8 (RB.struct underlying58 (by kernel_rfl) (Em QL (Em QL (Em QL (Em QL RF.nil))))) (λp=>⟨p.1,p.2.1,p.2.2.1,p.2.2.2.1⟩) Zf (λ_ h=>h)).down
def Pair.wf(x:Pair):Prop:=(Qp .i64) x.A/\(Qp .i64) x.B/\True
theorem TW:RB prog n 60 Pair Pair.c Pair.wf:=(Q8 (RB.struct underlying60 (by kernel_rfl) (Em QL (Em QL RF.nil))) (λp=>⟨p.1,p.2.1⟩) Zf (λ_ h=>h)).down
def Report.wf(x:Report):Prop:=(Qp .i64) x.Case/\(Qp .i64) x.Bib/\(Qp .i64) x.Offence/\(Qp .i64) x.Position/\True
theorem TV:RB prog n 62 Report Report.c Report.wf:=(Q8 (RB.struct underlying62 (by kernel_rfl) (Em QL (Em QL (Em QL (Em QL RF.nil))))) (λp=>⟨p.1,p.2.1,p.2.2.1,p.2.2.2.1⟩) Zf (λ_ h=>h)).down
def Protest.wf(x:Protest):Prop:=(Qp .i64) x.Case/\(Qp .i64) x.By/\(Qp .i64) x.Fee/\(Qp .i64) x.Form/\True
theorem TU:RB prog n 64 Protest Protest.c Protest.wf:=(Q8 (RB.struct underlying64 (by kernel_rfl) (Em QL (Em QL (Em QL (Em QL RF.nil))))) (λp=>⟨p.1,p.2.1,p.2.2.1,p.2.2.2.1⟩) Zf (λ_ h=>h)).down
def Ruling.wf(x:Ruling):Prop:=(Qp .i64) x.Case/\(Qp .i64) x.Instance/\(Qp .i64) x.Kind/\(Qp .i64) x.Bib/\(Qp .i64) x.Position/\(Qp .i64) x.Amount/\True
theorem TT:RB prog n 66 Ruling Ruling.c Ruling.wf:=(Q8 (RB.struct underlying66 (by kernel_rfl) (Em QL (Em QL (Em QL (Em QL (Em QL (Em QL RF.nil))))))) (λp=>⟨p.1,p.2.1,p.2.2.1,p.2.2.2.1,p.2.2.2.2.1,p.2.2.2.2.2.1⟩) Zf (λ_ h=>h)).down
def Appeal.wf(x:Appeal):Prop:=(Qp .i64) x.Case/\(λ_=>True) x.Suspends/\True
theorem TS:RB prog n 68 Appeal Appeal.c Appeal.wf:=(Q8 (RB.struct underlying68 (by kernel_rfl) (Em QL (Em (RB.bool underlying4) RF.nil))) (λp=>⟨p.1,p.2.1⟩) Zf (λ_ h=>h)).down
def H5.wf(x:H5):Prop:=(Qp .i64) x.Crew/\(Qp .i64) x.No/\True
theorem TR:RB prog n 70 H5 H5.c H5.wf:=(Q8 (RB.struct underlying70 (by kernel_rfl) (Em QL (Em QL RF.nil))) (λp=>⟨p.1,p.2.1⟩) Zf (λ_ h=>h)).down
def AC.wf(x:AC):Prop:=(Qp .i64) x.Crew/\(Qp .i64) x.No/\(Qp .i64) x.At/\(Qp .i64) x.Kind/\Starter.wf x.Starter/\Read.wf x.Read/\Beacon.wf x.Beacon/\Sync.wf x.Sync/\Hand.wf x.Hand/\Silence.wf x.Silence/\Pair.wf x.Pair/\Report.wf x.Report/\Protest.wf x.Protest/\Ruling.wf x.Ruling/\Appeal.wf x.Appeal/\H5.wf x.Void/\True
theorem TQ:RB prog n 72 AC AC.c AC.wf:=(Q8 (RB.struct underlying72 (by kernel_rfl) (Em QL (Em QL (Em QL (Em QL (El (k:=8) rfl (by kernel_rfl) (Tc n) (El (k:=4) rfl (by kernel_rfl) (Tb n) (El (k:=5) rfl (by kernel_rfl) (Ta n) (El (k:=8) rfl (by kernel_rfl) (TZ n) (El (k:=4) rfl (by kernel_rfl) (TY n) (El (k:=4) rfl (by kernel_rfl) (TX n) (El (k:=2) rfl (by kernel_rfl) (TW n) (El (k:=4) rfl (by kernel_rfl) (TV n) (El (k:=4) rfl (by kernel_rfl) (TU n) (El (k:=6) rfl (by kernel_rfl) (TT n) (El (k:=2) rfl (by kernel_rfl) (TS n) (El (k:=2) rfl (by kernel_rfl) (TR n) RF.nil))))))))))))))))) (λp=>⟨p.1,p.2.1,p.2.2.1,p.2.2.2.1,p.2.2.2.2.1,p.2.2.2.2.2.1,p.2.2.2.2.2.2.1,p.2.2.2.2.2.2.2.1,p.2.2.2.2.2.2.2.2.1,p.2.2.2.2.2.2.2.2.2.1,p.2.2.2.2.2.2.2.2.2.2.1,p.2.2.2.2.2.2.2.2.2.2.2.1,p.2.2.2.2.2.2.2.2.2.2.2.2.1,p.2.2.2.2.2.2.2.2.2.2.2.2.2.1,p.2.2.2.2.2.2.2.2.2.2.2.2.2.2.1,p.2.2.2.2.2.2.2.2.2.2.2.2.2.2.2.1⟩) Zf (λ_ h=>h)).down
end Go.Sw
