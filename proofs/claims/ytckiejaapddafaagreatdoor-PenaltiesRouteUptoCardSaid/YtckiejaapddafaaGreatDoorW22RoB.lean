/- How the arguments of PenaltiesRoute are read. -/
import Derived.Test.YtckiejaapddafaaGreatDoorW22RoA
set_option linter.unusedVariables false
set_option linter.unusedSimpArgs false
set_option maxRecDepth 100000
set_option maxHeartbeats 4000000
namespace Go.Sw
open Go.Proofs Tryz
def Mat.wf(x:Mat):Prop:=(λs=>s.length<=1048576) x.Name/\(Ql .i64) x.Kind/\True
theorem Qql(n:Nat):RB prog n 143 Mat Mat.c Mat.wf:=(QY (RB.struct underlying143 (by kernel_rfl) (Em (k:=1) rfl (by kernel_rfl) (RB.string underlying9) (Em (k:=1) rfl (by kernel_rfl) (RB.int underlying3) RF.nil))) (λp=>⟨p.1,p.2.1⟩) Zf (λ_ h=>h)).down
def Leg.wf(x:Leg):Prop:=(Ql .i64) x.From/\(Ql .i64) x.To/\(Ql .i64) x.Min/\(Ql .i64) x.Max/\True
theorem Qqk(n:Nat):RB prog n 145 Leg Leg.c Leg.wf:=(QY (RB.struct underlying145 (by kernel_rfl) (Em (k:=1) rfl (by kernel_rfl) (RB.int underlying3) (Em (k:=1) rfl (by kernel_rfl) (RB.int underlying3) (Em (k:=1) rfl (by kernel_rfl) (RB.int underlying3) (Em (k:=1) rfl (by kernel_rfl) (RB.int underlying3) RF.nil))))) (λp=>⟨p.1,p.2.1,p.2.2.1,p.2.2.2.1⟩) Zf (λ_ h=>h)).down
mutual
def Part.wf:Part->Prop
  |⟨x0,x1,x2⟩=>((Ql .i64) x0)/\((Ql .i64) x1)/\(x2.length<=1048576/\Part.wfs x2)/\True
def Part.wfs:List Part->Prop
  |[]=>True
  |x::l=>Part.wf x/\Part.wfs l
end
theorem Qdp(l:List Part):Part.wfs l↔ ∀x∈l,Part.wf x:=by
  induction l with
  |nil=>simp[Part.wfs]
  |cons x l ih=>simp[Part.wfs,ih]
theorem Qqj:∀n,RB prog n 147 Part Part.enc Part.wf:=QeI (λn ih=>QY (RB.struct underlying147 (by kernel_rfl) (Em (k:=1) rfl (by kernel_rfl) (RB.int underlying3) (Em (k:=1) rfl (by kernel_rfl) (RB.int underlying3) (Em (k:=1) rfl (by kernel_rfl) (RB.slice (k:=3) underlying109 (by kernel_rfl) rfl (λx=>by rw[YK];rfl) ih).down RF.nil)))) (λp=>⟨p.1,p.2.1,p.2.2.1⟩) (λp=>by simp[Part.enc,Qdq,Qf,Qba,encS,Qn8]) (λp h=>by simpa[Part.wf,Qdp]using h))
def Cutoff.wf(x:Cutoff):Prop:=(Ql .i64) x.Mat/\(Ql .i64) x.Lap/\(Ql .i64) x.Limit/\True
theorem Qqh(n:Nat):RB prog n 238 Cutoff Cutoff.c Cutoff.wf:=(QY (RB.struct underlying238 (by kernel_rfl) (Em (k:=1) rfl (by kernel_rfl) (RB.int underlying3) (Em (k:=1) rfl (by kernel_rfl) (RB.int underlying3) (Em (k:=1) rfl (by kernel_rfl) (RB.int underlying3) RF.nil)))) (λp=>⟨p.1,p.2.1,p.2.2.1⟩) Zf (λ_ h=>h)).down
def Distance.wf(x:Distance):Prop:=(λs=>s.length<=1048576) x.Name/\(λl=>l.length<=1048576/\ ∀x∈l,Part.wf x) x.Route/\(Ql .i64) x.Timing/\(λl=>l.length<=1048576/\ ∀x∈l,Cutoff.wf x) x.Cutoffs/\(Ql .i64) x.Extra/\True
theorem Qqp(n:Nat):RB prog n 112 Distance Distance.c Distance.wf:=(QY (RB.struct underlying112 (by kernel_rfl) (Em (k:=1) rfl (by kernel_rfl) (RB.string underlying9) (Em (k:=1) rfl (by kernel_rfl) (RB.slice (k:=3) underlying109 (by kernel_rfl) rfl (λx=>by rw[YK];rfl) (Qqj n)).down (Em (k:=1) rfl (by kernel_rfl) (RB.int underlying3) (Em (k:=1) rfl (by kernel_rfl) (RB.slice (k:=3) underlying110 (by kernel_rfl) rfl Zf (Qqh n)).down (Em (k:=1) rfl (by kernel_rfl) (RB.int underlying3) RF.nil)))))) (λp=>⟨p.1,p.2.1,p.2.2.1,p.2.2.2.1,p.2.2.2.2.1⟩) Zf (λ_ h=>h)).down
def Wave.wf(x:Wave):Prop:=(λs=>s.length<=1048576) x.Name/\(Ql .i64) x.Gun/\True
theorem Qqm(n:Nat):RB prog n 141 Wave Wave.c Wave.wf:=(QY (RB.struct underlying141 (by kernel_rfl) (Em (k:=1) rfl (by kernel_rfl) (RB.string underlying9) (Em (k:=1) rfl (by kernel_rfl) (RB.int underlying3) RF.nil))) (λp=>⟨p.1,p.2.1⟩) Zf (λ_ h=>h)).down
def Offence.wf(x:Offence):Prop:=(λs=>s.length<=1048576) x.Name/\(Ql .i64) x.Time/\(Ql .i64) x.Laps/\(λ_=>True) x.Out/\True
theorem rd_92(n:Nat):RB prog n 92 Offence Offence.c Offence.wf:=(QY (RB.struct underlying92 (by kernel_rfl) (Em (k:=1) rfl (by kernel_rfl) (RB.string underlying9) (Em (k:=1) rfl (by kernel_rfl) (RB.int underlying3) (Em (k:=1) rfl (by kernel_rfl) (RB.int underlying3) (Em (k:=1) rfl (by kernel_rfl) (RB.bool underlying4) RF.nil))))) (λp=>⟨p.1,p.2.1,p.2.2.1,p.2.2.2.1⟩) Zf (λ_ h=>h)).down
def Category.wf(x:Category):Prop:=(λs=>s.length<=1048576) x.Name/\(Ql .i64) x.From/\(Ql .i64) x.To/\True
theorem Qqi(n:Nat):RB prog n 232 Category Category.c Category.wf:=(QY (RB.struct underlying232 (by kernel_rfl) (Em (k:=1) rfl (by kernel_rfl) (RB.string underlying9) (Em (k:=1) rfl (by kernel_rfl) (RB.int underlying3) (Em (k:=1) rfl (by kernel_rfl) (RB.int underlying3) RF.nil)))) (λp=>⟨p.1,p.2.1,p.2.2.1⟩) Zf (λ_ h=>h)).down
def Prize.wf(x:Prize):Prop:=(Ql .i64) x.Distance/\(Ql .i64) x.Category/\(Ql .i64) x.Rank/\(Ql .i64) x.Amount/\True
theorem Qqg(n:Nat):RB prog n 244 Prize Prize.c Prize.wf:=(QY (RB.struct underlying244 (by kernel_rfl) (Em (k:=1) rfl (by kernel_rfl) (RB.int underlying3) (Em (k:=1) rfl (by kernel_rfl) (RB.int underlying3) (Em (k:=1) rfl (by kernel_rfl) (RB.int underlying3) (Em (k:=1) rfl (by kernel_rfl) (RB.int underlying3) RF.nil))))) (λp=>⟨p.1,p.2.1,p.2.2.1,p.2.2.2.1⟩) Zf (λ_ h=>h)).down
mutual
def Cond.wf:Cond->Prop
  |⟨x0,x1,x2,x3⟩=>((Ql .i64) x0)/\((Ql .i64) x1)/\((Ql .i64) x2)/\(x3.length<=1048576/\Cond.wfs x3)/\True
def Cond.wfs:List Cond->Prop
  |[]=>True
  |x::l=>Cond.wf x/\Cond.wfs l
end
theorem Qds(l:List Cond):Cond.wfs l↔ ∀x∈l,Cond.wf x:=by
  induction l with
  |nil=>simp[Cond.wfs]
  |cons x l ih=>simp[Cond.wfs,ih]
theorem Qqo:∀n,RB prog n 137 Cond Cond.enc Cond.wf:=QeI (λn ih=>QY (RB.struct underlying137 (by kernel_rfl) (Em (k:=1) rfl (by kernel_rfl) (RB.int underlying3) (Em (k:=1) rfl (by kernel_rfl) (RB.int underlying3) (Em (k:=1) rfl (by kernel_rfl) (RB.int underlying3) (Em (k:=1) rfl (by kernel_rfl) (RB.slice (k:=4) underlying135 (by kernel_rfl) rfl (λx=>by rw[Qa7];rfl) ih).down RF.nil))))) (λp=>⟨p.1,p.2.1,p.2.2.1,p.2.2.2.1⟩) (λp=>by simp[Cond.enc,Qdt,Qf,Qba,encS,Qn8]) (λp h=>by simpa[Cond.wf,Qds]using h))
mutual
def Step.wf:Step->Prop
  |⟨x0,x1,x2,x3,x4⟩=>((Ql .i64) x0)/\((Ql .i64) x1)/\(Cond.wf x2)/\(x3.length<=1048576/\Step.wfs x3)/\(x4.length<=1048576/\Step.wfs x4)/\True
def Step.wfs:List Step->Prop
  |[]=>True
  |x::l=>Step.wf x/\Step.wfs l
end
theorem Qdj(l:List Step):Step.wfs l↔ ∀x∈l,Step.wf x:=by
  induction l with
  |nil=>simp[Step.wfs]
  |cons x l ih=>simp[Step.wfs,ih]
theorem Qqn:∀n,RB prog n 139 Step Step.enc Step.wf:=QeI (λn ih=>QY (RB.struct underlying139 (by kernel_rfl) (Em (k:=1) rfl (by kernel_rfl) (RB.int underlying3) (Em (k:=1) rfl (by kernel_rfl) (RB.int underlying3) (Em (k:=4) rfl (by kernel_rfl) (Qqo n) (Em (k:=1) rfl (by kernel_rfl) (RB.slice (k:=8) underlying29 (by kernel_rfl) rfl (λx=>by rw[YS];rfl) ih).down (Em (k:=1) rfl (by kernel_rfl) (RB.slice (k:=8) underlying29 (by kernel_rfl) rfl (λx=>by rw[YS];rfl) ih).down RF.nil)))))) (λp=>⟨p.1,p.2.1,p.2.2.1,p.2.2.2.1,p.2.2.2.2.1⟩) (λp=>by simp[Step.enc,Qdk,Qf,Qba,encS,Qn8,Qa7,Cond.c]) (λp h=>by simpa[Step.wf,Qdj]using h))
def Faults.wf(x:Faults):Prop:=(Ql .i64) x.Misses/\(Ql .i64) x.Strays/\(Ql .i64) x.Window/\(Ql .i64) x.Residual/\(Ql .i64) x.Drift/\True
theorem rd_31(n:Nat):RB prog n 31 Faults Faults.c Faults.wf:=(QY (RB.struct underlying31 (by kernel_rfl) (Em (k:=1) rfl (by kernel_rfl) (RB.int underlying3) (Em (k:=1) rfl (by kernel_rfl) (RB.int underlying3) (Em (k:=1) rfl (by kernel_rfl) (RB.int underlying3) (Em (k:=1) rfl (by kernel_rfl) (RB.int underlying3) (Em (k:=1) rfl (by kernel_rfl) (RB.int underlying3) RF.nil)))))) (λp=>⟨p.1,p.2.1,p.2.2.1,p.2.2.2.1,p.2.2.2.2.1⟩) Zf (λ_ h=>h)).down
def Course.wf(x:Course):Prop:=(λs=>s.length<=1048576) x.Name/\(λl=>l.length<=1048576/\ ∀x∈l,Mat.wf x) x.Mats/\(λl=>l.length<=1048576/\ ∀x∈l,Leg.wf x) x.Legs/\(λl=>l.length<=1048576/\ ∀x∈l,Distance.wf x) x.Distances/\(λl=>l.length<=1048576/\ ∀x∈l,Wave.wf x) x.Waves/\(λl=>l.length<=1048576/\ ∀x∈l,Offence.wf x) x.Offences/\(λl=>l.length<=1048576/\ ∀x∈l,Category.wf x) x.Categories/\(λl=>l.length<=1048576/\ ∀x∈l,Prize.wf x) x.Prizes/\(λl=>l.length<=1048576/\ ∀x∈l,Step.wf x) x.Ties/\Faults.wf x.Faults/\(Ql .i64) x.Fee/\(Ql .i64) x.Deadline/\True
theorem rd_33(n:Nat):RB prog n 33 Course Course.c Course.wf:=(QY (RB.struct underlying33 (by kernel_rfl) (Em (k:=1) rfl (by kernel_rfl) (RB.string underlying9) (Em (k:=1) rfl (by kernel_rfl) (RB.slice (k:=2) underlying22 (by kernel_rfl) rfl Zf (Qql n)).down (Em (k:=1) rfl (by kernel_rfl) (RB.slice (k:=4) underlying23 (by kernel_rfl) rfl Zf (Qqk n)).down (Em (k:=1) rfl (by kernel_rfl) (RB.slice (k:=5) underlying24 (by kernel_rfl) rfl Zf (Qqp n)).down (Em (k:=1) rfl (by kernel_rfl) (RB.slice (k:=2) underlying25 (by kernel_rfl) rfl Zf (Qqm n)).down (Em (k:=1) rfl (by kernel_rfl) (RB.slice (k:=4) underlying26 (by kernel_rfl) rfl Zf (rd_92 n)).down (Em (k:=1) rfl (by kernel_rfl) (RB.slice (k:=3) underlying27 (by kernel_rfl) rfl Zf (Qqi n)).down (Em (k:=1) rfl (by kernel_rfl) (RB.slice (k:=4) underlying28 (by kernel_rfl) rfl Zf (Qqg n)).down (Em (k:=1) rfl (by kernel_rfl) (RB.slice (k:=8) underlying29 (by kernel_rfl) rfl (λx=>by rw[YS];rfl) (Qqn n)).down (Em (k:=5) rfl (by kernel_rfl) (rd_31 n) (Em (k:=1) rfl (by kernel_rfl) (RB.int underlying3) (Em (k:=1) rfl (by kernel_rfl) (RB.int underlying3) RF.nil))))))))))))) (λp=>⟨p.1,p.2.1,p.2.2.1,p.2.2.2.1,p.2.2.2.2.1,p.2.2.2.2.2.1,p.2.2.2.2.2.2.1,p.2.2.2.2.2.2.2.1,p.2.2.2.2.2.2.2.2.1,p.2.2.2.2.2.2.2.2.2.1,p.2.2.2.2.2.2.2.2.2.2.1,p.2.2.2.2.2.2.2.2.2.2.2.1⟩) Zf (λ_ h=>h)).down
def Starter.wf(x:Starter):Prop:=(Ql .i64) x.Bib/\(Ql .i64) x.Distance/\(Ql .i64) x.Wave/\(Ql .i64) x.Slot/\(Ql .i64) x.Age/\(Ql .i64) x.Chip/\(Ql .i64) x.Team/\(Ql .i64) x.Lot/\True
theorem rd_56(n:Nat):RB prog n 56 Starter Starter.c Starter.wf:=(QY (RB.struct underlying56 (by kernel_rfl) (Em (k:=1) rfl (by kernel_rfl) (RB.int underlying3) (Em (k:=1) rfl (by kernel_rfl) (RB.int underlying3) (Em (k:=1) rfl (by kernel_rfl) (RB.int underlying3) (Em (k:=1) rfl (by kernel_rfl) (RB.int underlying3) (Em (k:=1) rfl (by kernel_rfl) (RB.int underlying3) (Em (k:=1) rfl (by kernel_rfl) (RB.int underlying3) (Em (k:=1) rfl (by kernel_rfl) (RB.int underlying3) (Em (k:=1) rfl (by kernel_rfl) (RB.int underlying3) RF.nil))))))))) (λp=>⟨p.1,p.2.1,p.2.2.1,p.2.2.2.1,p.2.2.2.2.1,p.2.2.2.2.2.1,p.2.2.2.2.2.2.1,p.2.2.2.2.2.2.2.1⟩) Zf (λ_ h=>h)).down
def Read.wf(x:Read):Prop:=(Ql .i64) x.Mat/\(Ql .i64) x.Epoch/\(Ql .i64) x.Chip/\(Ql .i64) x.Local/\True
theorem rd_61(n:Nat):RB prog n 61 Read Read.c Read.wf:=(QY (RB.struct underlying61 (by kernel_rfl) (Em (k:=1) rfl (by kernel_rfl) (RB.int underlying3) (Em (k:=1) rfl (by kernel_rfl) (RB.int underlying3) (Em (k:=1) rfl (by kernel_rfl) (RB.int underlying3) (Em (k:=1) rfl (by kernel_rfl) (RB.int underlying3) RF.nil))))) (λp=>⟨p.1,p.2.1,p.2.2.1,p.2.2.2.1⟩) Zf (λ_ h=>h)).down
def Beacon.wf(x:Beacon):Prop:=(Ql .i64) x.Mat/\(Ql .i64) x.Epoch/\(Ql .i64) x.Local/\(Ql .i64) x.True/\(Ql .i64) x.Err/\_root_.True
theorem rd_63(n:Nat):RB prog n 63 Beacon Beacon.c Beacon.wf:=(QY (RB.struct underlying63 (by kernel_rfl) (Em (k:=1) rfl (by kernel_rfl) (RB.int underlying3) (Em (k:=1) rfl (by kernel_rfl) (RB.int underlying3) (Em (k:=1) rfl (by kernel_rfl) (RB.int underlying3) (Em (k:=1) rfl (by kernel_rfl) (RB.int underlying3) (Em (k:=1) rfl (by kernel_rfl) (RB.int underlying3) RF.nil)))))) (λp=>⟨p.1,p.2.1,p.2.2.1,p.2.2.2.1,p.2.2.2.2.1⟩) Zf (λ_ h=>h)).down
def Sync.wf(x:Sync):Prop:=(Ql .i64) x.MatA/\(Ql .i64) x.EpochA/\(Ql .i64) x.LocalA/\(Ql .i64) x.MatB/\(Ql .i64) x.EpochB/\(Ql .i64) x.LocalB/\(Ql .i64) x.Min/\(Ql .i64) x.Max/\True
theorem rd_65(n:Nat):RB prog n 65 Sync Sync.c Sync.wf:=(QY (RB.struct underlying65 (by kernel_rfl) (Em (k:=1) rfl (by kernel_rfl) (RB.int underlying3) (Em (k:=1) rfl (by kernel_rfl) (RB.int underlying3) (Em (k:=1) rfl (by kernel_rfl) (RB.int underlying3) (Em (k:=1) rfl (by kernel_rfl) (RB.int underlying3) (Em (k:=1) rfl (by kernel_rfl) (RB.int underlying3) (Em (k:=1) rfl (by kernel_rfl) (RB.int underlying3) (Em (k:=1) rfl (by kernel_rfl) (RB.int underlying3) (Em (k:=1) rfl (by kernel_rfl) (RB.int underlying3) RF.nil))))))))) (λp=>⟨p.1,p.2.1,p.2.2.1,p.2.2.2.1,p.2.2.2.2.1,p.2.2.2.2.2.1,p.2.2.2.2.2.2.1,p.2.2.2.2.2.2.2.1⟩) Zf (λ_ h=>h)).down
def Hand.wf(x:Hand):Prop:=(Ql .i64) x.Bib/\(Ql .i64) x.Position/\(Ql .i64) x.Lo/\(Ql .i64) x.Hi/\True
theorem rd_67(n:Nat):RB prog n 67 Hand Hand.c Hand.wf:=(QY (RB.struct underlying67 (by kernel_rfl) (Em (k:=1) rfl (by kernel_rfl) (RB.int underlying3) (Em (k:=1) rfl (by kernel_rfl) (RB.int underlying3) (Em (k:=1) rfl (by kernel_rfl) (RB.int underlying3) (Em (k:=1) rfl (by kernel_rfl) (RB.int underlying3) RF.nil))))) (λp=>⟨p.1,p.2.1,p.2.2.1,p.2.2.2.1⟩) Zf (λ_ h=>h)).down
def Silence.wf(x:Silence):Prop:=(Ql .i64) x.Mat/\(Ql .i64) x.Epoch/\(Ql .i64) x.Lo/\(Ql .i64) x.Hi/\True
theorem rd_69(n:Nat):RB prog n 69 Silence Silence.c Silence.wf:=(QY (RB.struct underlying69 (by kernel_rfl) (Em (k:=1) rfl (by kernel_rfl) (RB.int underlying3) (Em (k:=1) rfl (by kernel_rfl) (RB.int underlying3) (Em (k:=1) rfl (by kernel_rfl) (RB.int underlying3) (Em (k:=1) rfl (by kernel_rfl) (RB.int underlying3) RF.nil))))) (λp=>⟨p.1,p.2.1,p.2.2.1,p.2.2.2.1⟩) Zf (λ_ h=>h)).down
def Pair.wf(x:Pair):Prop:=(Ql .i64) x.A/\(Ql .i64) x.B/\True
theorem rd_71(n:Nat):RB prog n 71 Pair Pair.c Pair.wf:=(QY (RB.struct underlying71 (by kernel_rfl) (Em (k:=1) rfl (by kernel_rfl) (RB.int underlying3) (Em (k:=1) rfl (by kernel_rfl) (RB.int underlying3) RF.nil))) (λp=>⟨p.1,p.2.1⟩) Zf (λ_ h=>h)).down
def Report.wf(x:Report):Prop:=(Ql .i64) x.Case/\(Ql .i64) x.Bib/\(Ql .i64) x.Offence/\(Ql .i64) x.Position/\True
theorem rd_73(n:Nat):RB prog n 73 Report Report.c Report.wf:=(QY (RB.struct underlying73 (by kernel_rfl) (Em (k:=1) rfl (by kernel_rfl) (RB.int underlying3) (Em (k:=1) rfl (by kernel_rfl) (RB.int underlying3) (Em (k:=1) rfl (by kernel_rfl) (RB.int underlying3) (Em (k:=1) rfl (by kernel_rfl) (RB.int underlying3) RF.nil))))) (λp=>⟨p.1,p.2.1,p.2.2.1,p.2.2.2.1⟩) Zf (λ_ h=>h)).down
def Protest.wf(x:Protest):Prop:=(Ql .i64) x.Case/\(Ql .i64) x.By/\(Ql .i64) x.Fee/\(Ql .i64) x.Form/\True
theorem rd_75(n:Nat):RB prog n 75 Protest Protest.c Protest.wf:=(QY (RB.struct underlying75 (by kernel_rfl) (Em (k:=1) rfl (by kernel_rfl) (RB.int underlying3) (Em (k:=1) rfl (by kernel_rfl) (RB.int underlying3) (Em (k:=1) rfl (by kernel_rfl) (RB.int underlying3) (Em (k:=1) rfl (by kernel_rfl) (RB.int underlying3) RF.nil))))) (λp=>⟨p.1,p.2.1,p.2.2.1,p.2.2.2.1⟩) Zf (λ_ h=>h)).down
def Ruling.wf(x:Ruling):Prop:=(Ql .i64) x.Case/\(Ql .i64) x.Instance/\(Ql .i64) x.Kind/\(Ql .i64) x.Bib/\(Ql .i64) x.Position/\(Ql .i64) x.Amount/\True
theorem rd_77(n:Nat):RB prog n 77 Ruling Ruling.c Ruling.wf:=(QY (RB.struct underlying77 (by kernel_rfl) (Em (k:=1) rfl (by kernel_rfl) (RB.int underlying3) (Em (k:=1) rfl (by kernel_rfl) (RB.int underlying3) (Em (k:=1) rfl (by kernel_rfl) (RB.int underlying3) (Em (k:=1) rfl (by kernel_rfl) (RB.int underlying3) (Em (k:=1) rfl (by kernel_rfl) (RB.int underlying3) (Em (k:=1) rfl (by kernel_rfl) (RB.int underlying3) RF.nil))))))) (λp=>⟨p.1,p.2.1,p.2.2.1,p.2.2.2.1,p.2.2.2.2.1,p.2.2.2.2.2.1⟩) Zf (λ_ h=>h)).down
def Appeal.wf(x:Appeal):Prop:=(Ql .i64) x.Case/\(λ_=>True) x.Suspends/\True
theorem rd_79(n:Nat):RB prog n 79 Appeal Appeal.c Appeal.wf:=(QY (RB.struct underlying79 (by kernel_rfl) (Em (k:=1) rfl (by kernel_rfl) (RB.int underlying3) (Em (k:=1) rfl (by kernel_rfl) (RB.bool underlying4) RF.nil))) (λp=>⟨p.1,p.2.1⟩) Zf (λ_ h=>h)).down
def Ref.wf(x:Ref):Prop:=(Ql .i64) x.Crew/\(Ql .i64) x.No/\True
theorem rd_81(n:Nat):RB prog n 81 Ref Ref.c Ref.wf:=(QY (RB.struct underlying81 (by kernel_rfl) (Em (k:=1) rfl (by kernel_rfl) (RB.int underlying3) (Em (k:=1) rfl (by kernel_rfl) (RB.int underlying3) RF.nil))) (λp=>⟨p.1,p.2.1⟩) Zf (λ_ h=>h)).down
def Fact.wf(x:Fact):Prop:=(Ql .i64) x.Crew/\(Ql .i64) x.No/\(Ql .i64) x.At/\(Ql .i64) x.Kind/\Starter.wf x.Starter/\Read.wf x.Read/\Beacon.wf x.Beacon/\Sync.wf x.Sync/\Hand.wf x.Hand/\Silence.wf x.Silence/\Pair.wf x.Pair/\Report.wf x.Report/\Protest.wf x.Protest/\Ruling.wf x.Ruling/\Appeal.wf x.Appeal/\Ref.wf x.Void/\True
theorem rd_83(n:Nat):RB prog n 83 Fact Fact.c Fact.wf:=(QY (RB.struct underlying83 (by kernel_rfl) (Em (k:=1) rfl (by kernel_rfl) (RB.int underlying3) (Em (k:=1) rfl (by kernel_rfl) (RB.int underlying3) (Em (k:=1) rfl (by kernel_rfl) (RB.int underlying3) (Em (k:=1) rfl (by kernel_rfl) (RB.int underlying3) (Em (k:=8) rfl (by kernel_rfl) (rd_56 n) (Em (k:=4) rfl (by kernel_rfl) (rd_61 n) (Em (k:=5) rfl (by kernel_rfl) (rd_63 n) (Em (k:=8) rfl (by kernel_rfl) (rd_65 n) (Em (k:=4) rfl (by kernel_rfl) (rd_67 n) (Em (k:=4) rfl (by kernel_rfl) (rd_69 n) (Em (k:=2) rfl (by kernel_rfl) (rd_71 n) (Em (k:=4) rfl (by kernel_rfl) (rd_73 n) (Em (k:=4) rfl (by kernel_rfl) (rd_75 n) (Em (k:=6) rfl (by kernel_rfl) (rd_77 n) (Em (k:=2) rfl (by kernel_rfl) (rd_79 n) (Em (k:=2) rfl (by kernel_rfl) (rd_81 n) RF.nil))))))))))))))))) (λp=>⟨p.1,p.2.1,p.2.2.1,p.2.2.2.1,p.2.2.2.2.1,p.2.2.2.2.2.1,p.2.2.2.2.2.2.1,p.2.2.2.2.2.2.2.1,p.2.2.2.2.2.2.2.2.1,p.2.2.2.2.2.2.2.2.2.1,p.2.2.2.2.2.2.2.2.2.2.1,p.2.2.2.2.2.2.2.2.2.2.2.1,p.2.2.2.2.2.2.2.2.2.2.2.2.1,p.2.2.2.2.2.2.2.2.2.2.2.2.2.1,p.2.2.2.2.2.2.2.2.2.2.2.2.2.2.1,p.2.2.2.2.2.2.2.2.2.2.2.2.2.2.2.1⟩) Zf (λ_ h=>h)).down
end Go.Sw
