/- How the arguments of PenaltiesSecond are read. -/
import Derived.Test.YtckiejaapddafaaGreatDoorW22ScA
set_option linter.unusedVariables false
set_option linter.unusedSimpArgs false
set_option maxRecDepth 100000
set_option maxHeartbeats 4000000
namespace Go.Sw
open Go.Proofs Tryz
def Mat.wf(x:Mat):Prop:=(λs=>s.length<=1048576) x.Name/\(Ql .i64) x.Kind/\True
theorem Qpk(n:Nat):RB prog n 143 Mat Mat.c Mat.wf:=(QX (RB.struct underlying143 (by kernel_rfl) (Em (k:=1) rfl (by kernel_rfl) (RB.string underlying9) (Em (k:=1) rfl (by kernel_rfl) (RB.int underlying3) RF.nil))) (λp=>⟨p.1,p.2.1⟩) Zf (λ_ h=>h)).down
def Leg.wf(x:Leg):Prop:=(Ql .i64) x.From/\(Ql .i64) x.To/\(Ql .i64) x.Min/\(Ql .i64) x.Max/\True
theorem Qpj(n:Nat):RB prog n 145 Leg Leg.c Leg.wf:=(QX (RB.struct underlying145 (by kernel_rfl) (Em (k:=1) rfl (by kernel_rfl) (RB.int underlying3) (Em (k:=1) rfl (by kernel_rfl) (RB.int underlying3) (Em (k:=1) rfl (by kernel_rfl) (RB.int underlying3) (Em (k:=1) rfl (by kernel_rfl) (RB.int underlying3) RF.nil))))) (λp=>⟨p.1,p.2.1,p.2.2.1,p.2.2.2.1⟩) Zf (λ_ h=>h)).down
mutual
def Part.wf:Part->Prop
  |⟨x0,x1,x2⟩=>((Ql .i64) x0)/\((Ql .i64) x1)/\(x2.length<=1048576/\Part.wfs x2)/\True
def Part.wfs:List Part->Prop
  |[]=>True
  |x::l=>Part.wf x/\Part.wfs l
end
theorem Qdg(l:List Part):Part.wfs l↔ ∀x∈l,Part.wf x:=by
  induction l with
  |nil=>simp[Part.wfs]
  |cons x l ih=>simp[Part.wfs,ih]
theorem Qpi:∀n,RB prog n 147 Part Part.enc Part.wf:=Qet (λn ih=>QX (RB.struct underlying147 (by kernel_rfl) (Em (k:=1) rfl (by kernel_rfl) (RB.int underlying3) (Em (k:=1) rfl (by kernel_rfl) (RB.int underlying3) (Em (k:=1) rfl (by kernel_rfl) (RB.slice (k:=3) underlying109 (by kernel_rfl) rfl (λx=>by rw[YJ];rfl) ih).down RF.nil)))) (λp=>⟨p.1,p.2.1,p.2.2.1⟩) (λp=>by simp[Part.enc,Qdh,Qf,Qa8,encS,Qnc]) (λp h=>by simpa[Part.wf,Qdg]using h))
def Cutoff.wf(x:Cutoff):Prop:=(Ql .i64) x.Mat/\(Ql .i64) x.Lap/\(Ql .i64) x.Limit/\True
theorem Qpg(n:Nat):RB prog n 238 Cutoff Cutoff.c Cutoff.wf:=(QX (RB.struct underlying238 (by kernel_rfl) (Em (k:=1) rfl (by kernel_rfl) (RB.int underlying3) (Em (k:=1) rfl (by kernel_rfl) (RB.int underlying3) (Em (k:=1) rfl (by kernel_rfl) (RB.int underlying3) RF.nil)))) (λp=>⟨p.1,p.2.1,p.2.2.1⟩) Zf (λ_ h=>h)).down
def Distance.wf(x:Distance):Prop:=(λs=>s.length<=1048576) x.Name/\(λl=>l.length<=1048576/\ ∀x∈l,Part.wf x) x.Route/\(Ql .i64) x.Timing/\(λl=>l.length<=1048576/\ ∀x∈l,Cutoff.wf x) x.Cutoffs/\(Ql .i64) x.Extra/\True
theorem Qpo(n:Nat):RB prog n 112 Distance Distance.c Distance.wf:=(QX (RB.struct underlying112 (by kernel_rfl) (Em (k:=1) rfl (by kernel_rfl) (RB.string underlying9) (Em (k:=1) rfl (by kernel_rfl) (RB.slice (k:=3) underlying109 (by kernel_rfl) rfl (λx=>by rw[YJ];rfl) (Qpi n)).down (Em (k:=1) rfl (by kernel_rfl) (RB.int underlying3) (Em (k:=1) rfl (by kernel_rfl) (RB.slice (k:=3) underlying110 (by kernel_rfl) rfl Zf (Qpg n)).down (Em (k:=1) rfl (by kernel_rfl) (RB.int underlying3) RF.nil)))))) (λp=>⟨p.1,p.2.1,p.2.2.1,p.2.2.2.1,p.2.2.2.2.1⟩) Zf (λ_ h=>h)).down
def Wave.wf(x:Wave):Prop:=(λs=>s.length<=1048576) x.Name/\(Ql .i64) x.Gun/\True
theorem Qpl(n:Nat):RB prog n 141 Wave Wave.c Wave.wf:=(QX (RB.struct underlying141 (by kernel_rfl) (Em (k:=1) rfl (by kernel_rfl) (RB.string underlying9) (Em (k:=1) rfl (by kernel_rfl) (RB.int underlying3) RF.nil))) (λp=>⟨p.1,p.2.1⟩) Zf (λ_ h=>h)).down
def Offence.wf(x:Offence):Prop:=(λs=>s.length<=1048576) x.Name/\(Ql .i64) x.Time/\(Ql .i64) x.Laps/\(λ_=>True) x.Out/\True
theorem rd_92(n:Nat):RB prog n 92 Offence Offence.c Offence.wf:=(QX (RB.struct underlying92 (by kernel_rfl) (Em (k:=1) rfl (by kernel_rfl) (RB.string underlying9) (Em (k:=1) rfl (by kernel_rfl) (RB.int underlying3) (Em (k:=1) rfl (by kernel_rfl) (RB.int underlying3) (Em (k:=1) rfl (by kernel_rfl) (RB.bool underlying4) RF.nil))))) (λp=>⟨p.1,p.2.1,p.2.2.1,p.2.2.2.1⟩) Zf (λ_ h=>h)).down
def Category.wf(x:Category):Prop:=(λs=>s.length<=1048576) x.Name/\(Ql .i64) x.From/\(Ql .i64) x.To/\True
theorem Qph(n:Nat):RB prog n 232 Category Category.c Category.wf:=(QX (RB.struct underlying232 (by kernel_rfl) (Em (k:=1) rfl (by kernel_rfl) (RB.string underlying9) (Em (k:=1) rfl (by kernel_rfl) (RB.int underlying3) (Em (k:=1) rfl (by kernel_rfl) (RB.int underlying3) RF.nil)))) (λp=>⟨p.1,p.2.1,p.2.2.1⟩) Zf (λ_ h=>h)).down
def Prize.wf(x:Prize):Prop:=(Ql .i64) x.Distance/\(Ql .i64) x.Category/\(Ql .i64) x.Rank/\(Ql .i64) x.Amount/\True
theorem Qpf(n:Nat):RB prog n 244 Prize Prize.c Prize.wf:=(QX (RB.struct underlying244 (by kernel_rfl) (Em (k:=1) rfl (by kernel_rfl) (RB.int underlying3) (Em (k:=1) rfl (by kernel_rfl) (RB.int underlying3) (Em (k:=1) rfl (by kernel_rfl) (RB.int underlying3) (Em (k:=1) rfl (by kernel_rfl) (RB.int underlying3) RF.nil))))) (λp=>⟨p.1,p.2.1,p.2.2.1,p.2.2.2.1⟩) Zf (λ_ h=>h)).down
mutual
def Cond.wf:Cond->Prop
  |⟨x0,x1,x2,x3⟩=>((Ql .i64) x0)/\((Ql .i64) x1)/\((Ql .i64) x2)/\(x3.length<=1048576/\Cond.wfs x3)/\True
def Cond.wfs:List Cond->Prop
  |[]=>True
  |x::l=>Cond.wf x/\Cond.wfs l
end
theorem Qdj(l:List Cond):Cond.wfs l↔ ∀x∈l,Cond.wf x:=by
  induction l with
  |nil=>simp[Cond.wfs]
  |cons x l ih=>simp[Cond.wfs,ih]
theorem Qpn:∀n,RB prog n 137 Cond Cond.enc Cond.wf:=Qet (λn ih=>QX (RB.struct underlying137 (by kernel_rfl) (Em (k:=1) rfl (by kernel_rfl) (RB.int underlying3) (Em (k:=1) rfl (by kernel_rfl) (RB.int underlying3) (Em (k:=1) rfl (by kernel_rfl) (RB.int underlying3) (Em (k:=1) rfl (by kernel_rfl) (RB.slice (k:=4) underlying135 (by kernel_rfl) rfl (λx=>by rw[Qa5];rfl) ih).down RF.nil))))) (λp=>⟨p.1,p.2.1,p.2.2.1,p.2.2.2.1⟩) (λp=>by simp[Cond.enc,Qdk,Qf,Qa8,encS,Qnc]) (λp h=>by simpa[Cond.wf,Qdj]using h))
mutual
def Step.wf:Step->Prop
  |⟨x0,x1,x2,x3,x4⟩=>((Ql .i64) x0)/\((Ql .i64) x1)/\(Cond.wf x2)/\(x3.length<=1048576/\Step.wfs x3)/\(x4.length<=1048576/\Step.wfs x4)/\True
def Step.wfs:List Step->Prop
  |[]=>True
  |x::l=>Step.wf x/\Step.wfs l
end
theorem Qda(l:List Step):Step.wfs l↔ ∀x∈l,Step.wf x:=by
  induction l with
  |nil=>simp[Step.wfs]
  |cons x l ih=>simp[Step.wfs,ih]
theorem Qpm:∀n,RB prog n 139 Step Step.enc Step.wf:=Qet (λn ih=>QX (RB.struct underlying139 (by kernel_rfl) (Em (k:=1) rfl (by kernel_rfl) (RB.int underlying3) (Em (k:=1) rfl (by kernel_rfl) (RB.int underlying3) (Em (k:=4) rfl (by kernel_rfl) (Qpn n) (Em (k:=1) rfl (by kernel_rfl) (RB.slice (k:=8) underlying29 (by kernel_rfl) rfl (λx=>by rw[YQ];rfl) ih).down (Em (k:=1) rfl (by kernel_rfl) (RB.slice (k:=8) underlying29 (by kernel_rfl) rfl (λx=>by rw[YQ];rfl) ih).down RF.nil)))))) (λp=>⟨p.1,p.2.1,p.2.2.1,p.2.2.2.1,p.2.2.2.2.1⟩) (λp=>by simp[Step.enc,Qdb,Qf,Qa8,encS,Qnc,Qa5,Cond.c]) (λp h=>by simpa[Step.wf,Qda]using h))
def Faults.wf(x:Faults):Prop:=(Ql .i64) x.Misses/\(Ql .i64) x.Strays/\(Ql .i64) x.Window/\(Ql .i64) x.Residual/\(Ql .i64) x.Drift/\True
theorem rd_31(n:Nat):RB prog n 31 Faults Faults.c Faults.wf:=(QX (RB.struct underlying31 (by kernel_rfl) (Em (k:=1) rfl (by kernel_rfl) (RB.int underlying3) (Em (k:=1) rfl (by kernel_rfl) (RB.int underlying3) (Em (k:=1) rfl (by kernel_rfl) (RB.int underlying3) (Em (k:=1) rfl (by kernel_rfl) (RB.int underlying3) (Em (k:=1) rfl (by kernel_rfl) (RB.int underlying3) RF.nil)))))) (λp=>⟨p.1,p.2.1,p.2.2.1,p.2.2.2.1,p.2.2.2.2.1⟩) Zf (λ_ h=>h)).down
def Course.wf(x:Course):Prop:=(λs=>s.length<=1048576) x.Name/\(λl=>l.length<=1048576/\ ∀x∈l,Mat.wf x) x.Mats/\(λl=>l.length<=1048576/\ ∀x∈l,Leg.wf x) x.Legs/\(λl=>l.length<=1048576/\ ∀x∈l,Distance.wf x) x.Distances/\(λl=>l.length<=1048576/\ ∀x∈l,Wave.wf x) x.Waves/\(λl=>l.length<=1048576/\ ∀x∈l,Offence.wf x) x.Offences/\(λl=>l.length<=1048576/\ ∀x∈l,Category.wf x) x.Categories/\(λl=>l.length<=1048576/\ ∀x∈l,Prize.wf x) x.Prizes/\(λl=>l.length<=1048576/\ ∀x∈l,Step.wf x) x.Ties/\Faults.wf x.Faults/\(Ql .i64) x.Fee/\(Ql .i64) x.Deadline/\True
theorem rd_33(n:Nat):RB prog n 33 Course Course.c Course.wf:=(QX (RB.struct underlying33 (by kernel_rfl) (Em (k:=1) rfl (by kernel_rfl) (RB.string underlying9) (Em (k:=1) rfl (by kernel_rfl) (RB.slice (k:=2) underlying22 (by kernel_rfl) rfl Zf (Qpk n)).down (Em (k:=1) rfl (by kernel_rfl) (RB.slice (k:=4) underlying23 (by kernel_rfl) rfl Zf (Qpj n)).down (Em (k:=1) rfl (by kernel_rfl) (RB.slice (k:=5) underlying24 (by kernel_rfl) rfl Zf (Qpo n)).down (Em (k:=1) rfl (by kernel_rfl) (RB.slice (k:=2) underlying25 (by kernel_rfl) rfl Zf (Qpl n)).down (Em (k:=1) rfl (by kernel_rfl) (RB.slice (k:=4) underlying26 (by kernel_rfl) rfl Zf (rd_92 n)).down (Em (k:=1) rfl (by kernel_rfl) (RB.slice (k:=3) underlying27 (by kernel_rfl) rfl Zf (Qph n)).down (Em (k:=1) rfl (by kernel_rfl) (RB.slice (k:=4) underlying28 (by kernel_rfl) rfl Zf (Qpf n)).down (Em (k:=1) rfl (by kernel_rfl) (RB.slice (k:=8) underlying29 (by kernel_rfl) rfl (λx=>by rw[YQ];rfl) (Qpm n)).down (Em (k:=5) rfl (by kernel_rfl) (rd_31 n) (Em (k:=1) rfl (by kernel_rfl) (RB.int underlying3) (Em (k:=1) rfl (by kernel_rfl) (RB.int underlying3) RF.nil))))))))))))) (λp=>⟨p.1,p.2.1,p.2.2.1,p.2.2.2.1,p.2.2.2.2.1,p.2.2.2.2.2.1,p.2.2.2.2.2.2.1,p.2.2.2.2.2.2.2.1,p.2.2.2.2.2.2.2.2.1,p.2.2.2.2.2.2.2.2.2.1,p.2.2.2.2.2.2.2.2.2.2.1,p.2.2.2.2.2.2.2.2.2.2.2.1⟩) Zf (λ_ h=>h)).down
def Starter.wf(x:Starter):Prop:=(Ql .i64) x.Bib/\(Ql .i64) x.Distance/\(Ql .i64) x.Wave/\(Ql .i64) x.Slot/\(Ql .i64) x.Age/\(Ql .i64) x.Chip/\(Ql .i64) x.Team/\(Ql .i64) x.Lot/\True
theorem rd_56(n:Nat):RB prog n 56 Starter Starter.c Starter.wf:=(QX (RB.struct underlying56 (by kernel_rfl) (Em (k:=1) rfl (by kernel_rfl) (RB.int underlying3) (Em (k:=1) rfl (by kernel_rfl) (RB.int underlying3) (Em (k:=1) rfl (by kernel_rfl) (RB.int underlying3) (Em (k:=1) rfl (by kernel_rfl) (RB.int underlying3) (Em (k:=1) rfl (by kernel_rfl) (RB.int underlying3) (Em (k:=1) rfl (by kernel_rfl) (RB.int underlying3) (Em (k:=1) rfl (by kernel_rfl) (RB.int underlying3) (Em (k:=1) rfl (by kernel_rfl) (RB.int underlying3) RF.nil))))))))) (λp=>⟨p.1,p.2.1,p.2.2.1,p.2.2.2.1,p.2.2.2.2.1,p.2.2.2.2.2.1,p.2.2.2.2.2.2.1,p.2.2.2.2.2.2.2.1⟩) Zf (λ_ h=>h)).down
def Read.wf(x:Read):Prop:=(Ql .i64) x.Mat/\(Ql .i64) x.Epoch/\(Ql .i64) x.Chip/\(Ql .i64) x.Local/\True
theorem rd_61(n:Nat):RB prog n 61 Read Read.c Read.wf:=(QX (RB.struct underlying61 (by kernel_rfl) (Em (k:=1) rfl (by kernel_rfl) (RB.int underlying3) (Em (k:=1) rfl (by kernel_rfl) (RB.int underlying3) (Em (k:=1) rfl (by kernel_rfl) (RB.int underlying3) (Em (k:=1) rfl (by kernel_rfl) (RB.int underlying3) RF.nil))))) (λp=>⟨p.1,p.2.1,p.2.2.1,p.2.2.2.1⟩) Zf (λ_ h=>h)).down
def Beacon.wf(x:Beacon):Prop:=(Ql .i64) x.Mat/\(Ql .i64) x.Epoch/\(Ql .i64) x.Local/\(Ql .i64) x.True/\(Ql .i64) x.Err/\_root_.True
theorem rd_63(n:Nat):RB prog n 63 Beacon Beacon.c Beacon.wf:=(QX (RB.struct underlying63 (by kernel_rfl) (Em (k:=1) rfl (by kernel_rfl) (RB.int underlying3) (Em (k:=1) rfl (by kernel_rfl) (RB.int underlying3) (Em (k:=1) rfl (by kernel_rfl) (RB.int underlying3) (Em (k:=1) rfl (by kernel_rfl) (RB.int underlying3) (Em (k:=1) rfl (by kernel_rfl) (RB.int underlying3) RF.nil)))))) (λp=>⟨p.1,p.2.1,p.2.2.1,p.2.2.2.1,p.2.2.2.2.1⟩) Zf (λ_ h=>h)).down
def Sync.wf(x:Sync):Prop:=(Ql .i64) x.MatA/\(Ql .i64) x.EpochA/\(Ql .i64) x.LocalA/\(Ql .i64) x.MatB/\(Ql .i64) x.EpochB/\(Ql .i64) x.LocalB/\(Ql .i64) x.Min/\(Ql .i64) x.Max/\True
theorem rd_65(n:Nat):RB prog n 65 Sync Sync.c Sync.wf:=(QX (RB.struct underlying65 (by kernel_rfl) (Em (k:=1) rfl (by kernel_rfl) (RB.int underlying3) (Em (k:=1) rfl (by kernel_rfl) (RB.int underlying3) (Em (k:=1) rfl (by kernel_rfl) (RB.int underlying3) (Em (k:=1) rfl (by kernel_rfl) (RB.int underlying3) (Em (k:=1) rfl (by kernel_rfl) (RB.int underlying3) (Em (k:=1) rfl (by kernel_rfl) (RB.int underlying3) (Em (k:=1) rfl (by kernel_rfl) (RB.int underlying3) (Em (k:=1) rfl (by kernel_rfl) (RB.int underlying3) RF.nil))))))))) (λp=>⟨p.1,p.2.1,p.2.2.1,p.2.2.2.1,p.2.2.2.2.1,p.2.2.2.2.2.1,p.2.2.2.2.2.2.1,p.2.2.2.2.2.2.2.1⟩) Zf (λ_ h=>h)).down
def Hand.wf(x:Hand):Prop:=(Ql .i64) x.Bib/\(Ql .i64) x.Position/\(Ql .i64) x.Lo/\(Ql .i64) x.Hi/\True
theorem rd_67(n:Nat):RB prog n 67 Hand Hand.c Hand.wf:=(QX (RB.struct underlying67 (by kernel_rfl) (Em (k:=1) rfl (by kernel_rfl) (RB.int underlying3) (Em (k:=1) rfl (by kernel_rfl) (RB.int underlying3) (Em (k:=1) rfl (by kernel_rfl) (RB.int underlying3) (Em (k:=1) rfl (by kernel_rfl) (RB.int underlying3) RF.nil))))) (λp=>⟨p.1,p.2.1,p.2.2.1,p.2.2.2.1⟩) Zf (λ_ h=>h)).down
def Silence.wf(x:Silence):Prop:=(Ql .i64) x.Mat/\(Ql .i64) x.Epoch/\(Ql .i64) x.Lo/\(Ql .i64) x.Hi/\True
theorem rd_69(n:Nat):RB prog n 69 Silence Silence.c Silence.wf:=(QX (RB.struct underlying69 (by kernel_rfl) (Em (k:=1) rfl (by kernel_rfl) (RB.int underlying3) (Em (k:=1) rfl (by kernel_rfl) (RB.int underlying3) (Em (k:=1) rfl (by kernel_rfl) (RB.int underlying3) (Em (k:=1) rfl (by kernel_rfl) (RB.int underlying3) RF.nil))))) (λp=>⟨p.1,p.2.1,p.2.2.1,p.2.2.2.1⟩) Zf (λ_ h=>h)).down
def Pair.wf(x:Pair):Prop:=(Ql .i64) x.A/\(Ql .i64) x.B/\True
theorem rd_71(n:Nat):RB prog n 71 Pair Pair.c Pair.wf:=(QX (RB.struct underlying71 (by kernel_rfl) (Em (k:=1) rfl (by kernel_rfl) (RB.int underlying3) (Em (k:=1) rfl (by kernel_rfl) (RB.int underlying3) RF.nil))) (λp=>⟨p.1,p.2.1⟩) Zf (λ_ h=>h)).down
def Report.wf(x:Report):Prop:=(Ql .i64) x.Case/\(Ql .i64) x.Bib/\(Ql .i64) x.Offence/\(Ql .i64) x.Position/\True
theorem rd_73(n:Nat):RB prog n 73 Report Report.c Report.wf:=(QX (RB.struct underlying73 (by kernel_rfl) (Em (k:=1) rfl (by kernel_rfl) (RB.int underlying3) (Em (k:=1) rfl (by kernel_rfl) (RB.int underlying3) (Em (k:=1) rfl (by kernel_rfl) (RB.int underlying3) (Em (k:=1) rfl (by kernel_rfl) (RB.int underlying3) RF.nil))))) (λp=>⟨p.1,p.2.1,p.2.2.1,p.2.2.2.1⟩) Zf (λ_ h=>h)).down
def Protest.wf(x:Protest):Prop:=(Ql .i64) x.Case/\(Ql .i64) x.By/\(Ql .i64) x.Fee/\(Ql .i64) x.Form/\True
theorem rd_75(n:Nat):RB prog n 75 Protest Protest.c Protest.wf:=(QX (RB.struct underlying75 (by kernel_rfl) (Em (k:=1) rfl (by kernel_rfl) (RB.int underlying3) (Em (k:=1) rfl (by kernel_rfl) (RB.int underlying3) (Em (k:=1) rfl (by kernel_rfl) (RB.int underlying3) (Em (k:=1) rfl (by kernel_rfl) (RB.int underlying3) RF.nil))))) (λp=>⟨p.1,p.2.1,p.2.2.1,p.2.2.2.1⟩) Zf (λ_ h=>h)).down
def Ruling.wf(x:Ruling):Prop:=(Ql .i64) x.Case/\(Ql .i64) x.Instance/\(Ql .i64) x.Kind/\(Ql .i64) x.Bib/\(Ql .i64) x.Position/\(Ql .i64) x.Amount/\True
theorem rd_77(n:Nat):RB prog n 77 Ruling Ruling.c Ruling.wf:=(QX (RB.struct underlying77 (by kernel_rfl) (Em (k:=1) rfl (by kernel_rfl) (RB.int underlying3) (Em (k:=1) rfl (by kernel_rfl) (RB.int underlying3) (Em (k:=1) rfl (by kernel_rfl) (RB.int underlying3) (Em (k:=1) rfl (by kernel_rfl) (RB.int underlying3) (Em (k:=1) rfl (by kernel_rfl) (RB.int underlying3) (Em (k:=1) rfl (by kernel_rfl) (RB.int underlying3) RF.nil))))))) (λp=>⟨p.1,p.2.1,p.2.2.1,p.2.2.2.1,p.2.2.2.2.1,p.2.2.2.2.2.1⟩) Zf (λ_ h=>h)).down
def Appeal.wf(x:Appeal):Prop:=(Ql .i64) x.Case/\(λ_=>True) x.Suspends/\True
theorem rd_79(n:Nat):RB prog n 79 Appeal Appeal.c Appeal.wf:=(QX (RB.struct underlying79 (by kernel_rfl) (Em (k:=1) rfl (by kernel_rfl) (RB.int underlying3) (Em (k:=1) rfl (by kernel_rfl) (RB.bool underlying4) RF.nil))) (λp=>⟨p.1,p.2.1⟩) Zf (λ_ h=>h)).down
def Ref.wf(x:Ref):Prop:=(Ql .i64) x.Crew/\(Ql .i64) x.No/\True
theorem rd_81(n:Nat):RB prog n 81 Ref Ref.c Ref.wf:=(QX (RB.struct underlying81 (by kernel_rfl) (Em (k:=1) rfl (by kernel_rfl) (RB.int underlying3) (Em (k:=1) rfl (by kernel_rfl) (RB.int underlying3) RF.nil))) (λp=>⟨p.1,p.2.1⟩) Zf (λ_ h=>h)).down
def Fact.wf(x:Fact):Prop:=(Ql .i64) x.Crew/\(Ql .i64) x.No/\(Ql .i64) x.At/\(Ql .i64) x.Kind/\Starter.wf x.Starter/\Read.wf x.Read/\Beacon.wf x.Beacon/\Sync.wf x.Sync/\Hand.wf x.Hand/\Silence.wf x.Silence/\Pair.wf x.Pair/\Report.wf x.Report/\Protest.wf x.Protest/\Ruling.wf x.Ruling/\Appeal.wf x.Appeal/\Ref.wf x.Void/\True
theorem rd_83(n:Nat):RB prog n 83 Fact Fact.c Fact.wf:=(QX (RB.struct underlying83 (by kernel_rfl) (Em (k:=1) rfl (by kernel_rfl) (RB.int underlying3) (Em (k:=1) rfl (by kernel_rfl) (RB.int underlying3) (Em (k:=1) rfl (by kernel_rfl) (RB.int underlying3) (Em (k:=1) rfl (by kernel_rfl) (RB.int underlying3) (Em (k:=8) rfl (by kernel_rfl) (rd_56 n) (Em (k:=4) rfl (by kernel_rfl) (rd_61 n) (Em (k:=5) rfl (by kernel_rfl) (rd_63 n) (Em (k:=8) rfl (by kernel_rfl) (rd_65 n) (Em (k:=4) rfl (by kernel_rfl) (rd_67 n) (Em (k:=4) rfl (by kernel_rfl) (rd_69 n) (Em (k:=2) rfl (by kernel_rfl) (rd_71 n) (Em (k:=4) rfl (by kernel_rfl) (rd_73 n) (Em (k:=4) rfl (by kernel_rfl) (rd_75 n) (Em (k:=6) rfl (by kernel_rfl) (rd_77 n) (Em (k:=2) rfl (by kernel_rfl) (rd_79 n) (Em (k:=2) rfl (by kernel_rfl) (rd_81 n) RF.nil))))))))))))))))) (λp=>⟨p.1,p.2.1,p.2.2.1,p.2.2.2.1,p.2.2.2.2.1,p.2.2.2.2.2.1,p.2.2.2.2.2.2.1,p.2.2.2.2.2.2.2.1,p.2.2.2.2.2.2.2.2.1,p.2.2.2.2.2.2.2.2.2.1,p.2.2.2.2.2.2.2.2.2.2.1,p.2.2.2.2.2.2.2.2.2.2.2.1,p.2.2.2.2.2.2.2.2.2.2.2.2.1,p.2.2.2.2.2.2.2.2.2.2.2.2.2.1,p.2.2.2.2.2.2.2.2.2.2.2.2.2.2.1,p.2.2.2.2.2.2.2.2.2.2.2.2.2.2.2.1⟩) Zf (λ_ h=>h)).down
end Go.Sw
