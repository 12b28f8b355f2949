/- How the arguments of ChipsStartersSpec are read. -/
import Derived.Test.YtkjlhfabbbomjaaGreatDoorW18StA
set_option linter.unusedVariables false
set_option linter.unusedSimpArgs false
set_option maxRecDepth 100000
set_option maxHeartbeats 4000000
namespace Go.Sw
open Go.Proofs Tryz
def Mat.wf(x:Mat):Prop:=(fun s=>s.length<=1048576) x.Name/\(Qn .i64) x.Kind/\True
theorem rd_96(n:Nat):RB prog n 96 Mat Mat.c Mat.wf:=(QZ (RB.struct underlying96 (by kernel_rfl) (RF.cons (k:=1) rfl (by kernel_rfl) (RB.string underlying9) (RF.cons (k:=1) rfl (by kernel_rfl) (RB.int underlying3) RF.nil))) (fun p=>⟨p.1,p.2.1⟩) (fun _=>rfl) (fun _ h=>h)).down
def Leg.wf(x:Leg):Prop:=(Qn .i64) x.From/\(Qn .i64) x.To/\(Qn .i64) x.Min/\(Qn .i64) x.Max/\True
theorem Qnz(n:Nat):RB prog n 123 Leg Leg.c Leg.wf:=(QZ (RB.struct underlying123 (by kernel_rfl) (RF.cons (k:=1) rfl (by kernel_rfl) (RB.int underlying3) (RF.cons (k:=1) rfl (by kernel_rfl) (RB.int underlying3) (RF.cons (k:=1) rfl (by kernel_rfl) (RB.int underlying3) (RF.cons (k:=1) rfl (by kernel_rfl) (RB.int underlying3) RF.nil))))) (fun p=>⟨p.1,p.2.1,p.2.2.1,p.2.2.2.1⟩) (fun _=>rfl) (fun _ h=>h)).down
mutual
def Part.wf:Part->Prop
  |⟨x0,x1,x2⟩=>((Qn .i64) x0)/\((Qn .i64) x1)/\(x2.length<=1048576/\Part.wfs x2)/\True
def Part.wfs:List Part->Prop
  |[]=>True
  |x::l=>Part.wf x/\Part.wfs l
end
theorem Qc9(l:List Part):Part.wfs l↔ ∀x∈l,Part.wf x:=by
  induction l with
  |nil=>simp[Part.wfs]
  |cons x l ih=>simp[Part.wfs,ih]
theorem Qny:∀n,RB prog n 125 Part Part.enc Part.wf:=Qeo (fun n ih=>QZ (RB.struct underlying125 (by kernel_rfl) (RF.cons (k:=1) rfl (by kernel_rfl) (RB.int underlying3) (RF.cons (k:=1) rfl (by kernel_rfl) (RB.int underlying3) (RF.cons (k:=1) rfl (by kernel_rfl) (RB.slice (k:=3) underlying91 (by kernel_rfl) rfl (fun x=>by rw[Q0];rfl) ih).down RF.nil)))) (fun p=>⟨p.1,p.2.1,p.2.2.1⟩) (fun p=>by simp[Part.enc,Qda,Qf,Qa3,Jo,Qme]) (fun p h=>by simpa[Part.wf,Qc9]using h))
def Cutoff.wf(x:Cutoff):Prop:=(Qn .i64) x.Mat/\(Qn .i64) x.Lap/\(Qn .i64) x.Limit/\True
theorem Qnr(n:Nat):RB prog n 168 Cutoff Cutoff.c Cutoff.wf:=(QZ (RB.struct underlying168 (by kernel_rfl) (RF.cons (k:=1) rfl (by kernel_rfl) (RB.int underlying3) (RF.cons (k:=1) rfl (by kernel_rfl) (RB.int underlying3) (RF.cons (k:=1) rfl (by kernel_rfl) (RB.int underlying3) RF.nil)))) (fun p=>⟨p.1,p.2.1,p.2.2.1⟩) (fun _=>rfl) (fun _ h=>h)).down
def Distance.wf(x:Distance):Prop:=(fun s=>s.length<=1048576) x.Name/\(fun l=>l.length<=1048576/\ ∀x∈l,Part.wf x) x.Route/\(Qn .i64) x.Timing/\(fun l=>l.length<=1048576/\ ∀x∈l,Cutoff.wf x) x.Cutoffs/\(Qn .i64) x.Extra/\True
theorem rd_94(n:Nat):RB prog n 94 Distance Distance.c Distance.wf:=(QZ (RB.struct underlying94 (by kernel_rfl) (RF.cons (k:=1) rfl (by kernel_rfl) (RB.string underlying9) (RF.cons (k:=1) rfl (by kernel_rfl) (RB.slice (k:=3) underlying91 (by kernel_rfl) rfl (fun x=>by rw[Q0];rfl) (Qny n)).down (RF.cons (k:=1) rfl (by kernel_rfl) (RB.int underlying3) (RF.cons (k:=1) rfl (by kernel_rfl) (RB.slice (k:=3) underlying92 (by kernel_rfl) rfl (fun _=>rfl) (Qnr n)).down (RF.cons (k:=1) rfl (by kernel_rfl) (RB.int underlying3) RF.nil)))))) (fun p=>⟨p.1,p.2.1,p.2.2.1,p.2.2.2.1,p.2.2.2.2.1⟩) (fun _=>rfl) (fun _ h=>h)).down
def Wave.wf(x:Wave):Prop:=(fun s=>s.length<=1048576) x.Name/\(Qn .i64) x.Gun/\True
theorem Qnx(n:Nat):RB prog n 127 Wave Wave.c Wave.wf:=(QZ (RB.struct underlying127 (by kernel_rfl) (RF.cons (k:=1) rfl (by kernel_rfl) (RB.string underlying9) (RF.cons (k:=1) rfl (by kernel_rfl) (RB.int underlying3) RF.nil))) (fun p=>⟨p.1,p.2.1⟩) (fun _=>rfl) (fun _ h=>h)).down
def Offence.wf(x:Offence):Prop:=(fun s=>s.length<=1048576) x.Name/\(Qn .i64) x.Time/\(Qn .i64) x.Laps/\(fun _=>True) x.Out/\True
theorem Qnu(n:Nat):RB prog n 152 Offence Offence.c Offence.wf:=(QZ (RB.struct underlying152 (by kernel_rfl) (RF.cons (k:=1) rfl (by kernel_rfl) (RB.string underlying9) (RF.cons (k:=1) rfl (by kernel_rfl) (RB.int underlying3) (RF.cons (k:=1) rfl (by kernel_rfl) (RB.int underlying3) (RF.cons (k:=1) rfl (by kernel_rfl) (RB.bool underlying4) RF.nil))))) (fun p=>⟨p.1,p.2.1,p.2.2.1,p.2.2.2.1⟩) (fun _=>rfl) (fun _ h=>h)).down
def Category.wf(x:Category):Prop:=(fun s=>s.length<=1048576) x.Name/\(Qn .i64) x.From/\(Qn .i64) x.To/\True
theorem Qnt(n:Nat):RB prog n 154 Category Category.c Category.wf:=(QZ (RB.struct underlying154 (by kernel_rfl) (RF.cons (k:=1) rfl (by kernel_rfl) (RB.string underlying9) (RF.cons (k:=1) rfl (by kernel_rfl) (RB.int underlying3) (RF.cons (k:=1) rfl (by kernel_rfl) (RB.int underlying3) RF.nil)))) (fun p=>⟨p.1,p.2.1,p.2.2.1⟩) (fun _=>rfl) (fun _ h=>h)).down
def Prize.wf(x:Prize):Prop:=(Qn .i64) x.Distance/\(Qn .i64) x.Category/\(Qn .i64) x.Rank/\(Qn .i64) x.Amount/\True
theorem Qns(n:Nat):RB prog n 160 Prize Prize.c Prize.wf:=(QZ (RB.struct underlying160 (by kernel_rfl) (RF.cons (k:=1) rfl (by kernel_rfl) (RB.int underlying3) (RF.cons (k:=1) rfl (by kernel_rfl) (RB.int underlying3) (RF.cons (k:=1) rfl (by kernel_rfl) (RB.int underlying3) (RF.cons (k:=1) rfl (by kernel_rfl) (RB.int underlying3) RF.nil))))) (fun p=>⟨p.1,p.2.1,p.2.2.1,p.2.2.2.1⟩) (fun _=>rfl) (fun _ h=>h)).down
mutual
def Cond.wf:Cond->Prop
  |⟨x0,x1,x2,x3⟩=>((Qn .i64) x0)/\((Qn .i64) x1)/\((Qn .i64) x2)/\(x3.length<=1048576/\Cond.wfs x3)/\True
def Cond.wfs:List Cond->Prop
  |[]=>True
  |x::l=>Cond.wf x/\Cond.wfs l
end
theorem Qdh(l:List Cond):Cond.wfs l↔ ∀x∈l,Cond.wf x:=by
  induction l with
  |nil=>simp[Cond.wfs]
  |cons x l ih=>simp[Cond.wfs,ih]
theorem Qnw:∀n,RB prog n 130 Cond Cond.enc Cond.wf:=Qeo (fun n ih=>QZ (RB.struct underlying130 (by kernel_rfl) (RF.cons (k:=1) rfl (by kernel_rfl) (RB.int underlying3) (RF.cons (k:=1) rfl (by kernel_rfl) (RB.int underlying3) (RF.cons (k:=1) rfl (by kernel_rfl) (RB.int underlying3) (RF.cons (k:=1) rfl (by kernel_rfl) (RB.slice (k:=4) underlying128 (by kernel_rfl) rfl (fun x=>by rw[Y2];rfl) ih).down RF.nil))))) (fun p=>⟨p.1,p.2.1,p.2.2.1,p.2.2.2.1⟩) (fun p=>by simp[Cond.enc,Qdi,Qf,Qa3,Jo,Qme]) (fun p h=>by simpa[Cond.wf,Qdh]using h))
mutual
def Step.wf:Step->Prop
  |⟨x0,x1,x2,x3,x4⟩=>((Qn .i64) x0)/\((Qn .i64) x1)/\(Cond.wf x2)/\(x3.length<=1048576/\Step.wfs x3)/\(x4.length<=1048576/\Step.wfs x4)/\True
def Step.wfs:List Step->Prop
  |[]=>True
  |x::l=>Step.wf x/\Step.wfs l
end
theorem Qc4(l:List Step):Step.wfs l↔ ∀x∈l,Step.wf x:=by
  induction l with
  |nil=>simp[Step.wfs]
  |cons x l ih=>simp[Step.wfs,ih]
theorem Qnv:∀n,RB prog n 132 Step Step.enc Step.wf:=Qeo (fun n ih=>QZ (RB.struct underlying132 (by kernel_rfl) (RF.cons (k:=1) rfl (by kernel_rfl) (RB.int underlying3) (RF.cons (k:=1) rfl (by kernel_rfl) (RB.int underlying3) (RF.cons (k:=4) rfl (by kernel_rfl) (Qnw n) (RF.cons (k:=1) rfl (by kernel_rfl) (RB.slice (k:=8) underlying29 (by kernel_rfl) rfl (fun x=>by rw[Yb];rfl) ih).down (RF.cons (k:=1) rfl (by kernel_rfl) (RB.slice (k:=8) underlying29 (by kernel_rfl) rfl (fun x=>by rw[Yb];rfl) ih).down RF.nil)))))) (fun p=>⟨p.1,p.2.1,p.2.2.1,p.2.2.2.1,p.2.2.2.2.1⟩) (fun p=>by simp[Step.enc,Qc5,Qf,Qa3,Jo,Qme,Y2,Cond.c]) (fun p h=>by simpa[Step.wf,Qc4]using h))
def Faults.wf(x:Faults):Prop:=(Qn .i64) x.Misses/\(Qn .i64) x.Strays/\(Qn .i64) x.Window/\(Qn .i64) x.Residual/\(Qn .i64) x.Drift/\True
theorem rd_31(n:Nat):RB prog n 31 Faults Faults.c Faults.wf:=(QZ (RB.struct underlying31 (by kernel_rfl) (RF.cons (k:=1) rfl (by kernel_rfl) (RB.int underlying3) (RF.cons (k:=1) rfl (by kernel_rfl) (RB.int underlying3) (RF.cons (k:=1) rfl (by kernel_rfl) (RB.int underlying3) (RF.cons (k:=1) rfl (by kernel_rfl) (RB.int underlying3) (RF.cons (k:=1) rfl (by kernel_rfl) (RB.int underlying3) RF.nil)))))) (fun p=>⟨p.1,p.2.1,p.2.2.1,p.2.2.2.1,p.2.2.2.2.1⟩) (fun _=>rfl) (fun _ h=>h)).down
def Course.wf(x:Course):Prop:=(fun s=>s.length<=1048576) x.Name/\(fun l=>l.length<=1048576/\ ∀x∈l,Mat.wf x) x.Mats/\(fun l=>l.length<=1048576/\ ∀x∈l,Leg.wf x) x.Legs/\(fun l=>l.length<=1048576/\ ∀x∈l,Distance.wf x) x.Distances/\(fun l=>l.length<=1048576/\ ∀x∈l,Wave.wf x) x.Waves/\(fun l=>l.length<=1048576/\ ∀x∈l,Offence.wf x) x.Offences/\(fun l=>l.length<=1048576/\ ∀x∈l,Category.wf x) x.Categories/\(fun l=>l.length<=1048576/\ ∀x∈l,Prize.wf x) x.Prizes/\(fun l=>l.length<=1048576/\ ∀x∈l,Step.wf x) x.Ties/\Faults.wf x.Faults/\(Qn .i64) x.Fee/\(Qn .i64) x.Deadline/\True
theorem rd_33(n:Nat):RB prog n 33 Course Course.c Course.wf:=(QZ (RB.struct underlying33 (by kernel_rfl) (RF.cons (k:=1) rfl (by kernel_rfl) (RB.string underlying9) (RF.cons (k:=1) rfl (by kernel_rfl) (RB.slice (k:=2) underlying22 (by kernel_rfl) rfl (fun _=>rfl) (rd_96 n)).down (RF.cons (k:=1) rfl (by kernel_rfl) (RB.slice (k:=4) underlying23 (by kernel_rfl) rfl (fun _=>rfl) (Qnz n)).down (RF.cons (k:=1) rfl (by kernel_rfl) (RB.slice (k:=5) underlying24 (by kernel_rfl) rfl (fun _=>rfl) (rd_94 n)).down (RF.cons (k:=1) rfl (by kernel_rfl) (RB.slice (k:=2) underlying25 (by kernel_rfl) rfl (fun _=>rfl) (Qnx n)).down (RF.cons (k:=1) rfl (by kernel_rfl) (RB.slice (k:=4) underlying26 (by kernel_rfl) rfl (fun _=>rfl) (Qnu n)).down (RF.cons (k:=1) rfl (by kernel_rfl) (RB.slice (k:=3) underlying27 (by kernel_rfl) rfl (fun _=>rfl) (Qnt n)).down (RF.cons (k:=1) rfl (by kernel_rfl) (RB.slice (k:=4) underlying28 (by kernel_rfl) rfl (fun _=>rfl) (Qns n)).down (RF.cons (k:=1) rfl (by kernel_rfl) (RB.slice (k:=8) underlying29 (by kernel_rfl) rfl (fun x=>by rw[Yb];rfl) (Qnv n)).down (RF.cons (k:=5) rfl (by kernel_rfl) (rd_31 n) (RF.cons (k:=1) rfl (by kernel_rfl) (RB.int underlying3) (RF.cons (k:=1) rfl (by kernel_rfl) (RB.int underlying3) RF.nil))))))))))))) (fun p=>⟨p.1,p.2.1,p.2.2.1,p.2.2.2.1,p.2.2.2.2.1,p.2.2.2.2.2.1,p.2.2.2.2.2.2.1,p.2.2.2.2.2.2.2.1,p.2.2.2.2.2.2.2.2.1,p.2.2.2.2.2.2.2.2.2.1,p.2.2.2.2.2.2.2.2.2.2.1,p.2.2.2.2.2.2.2.2.2.2.2.1⟩) (fun _=>rfl) (fun _ h=>h)).down
def Starter.wf(x:Starter):Prop:=(Qn .i64) x.Bib/\(Qn .i64) x.Distance/\(Qn .i64) x.Wave/\(Qn .i64) x.Slot/\(Qn .i64) x.Age/\(Qn .i64) x.Chip/\(Qn .i64) x.Team/\(Qn .i64) x.Lot/\True
theorem rd_50(n:Nat):RB prog n 50 Starter Starter.c Starter.wf:=(QZ (RB.struct underlying50 (by kernel_rfl) (RF.cons (k:=1) rfl (by kernel_rfl) (RB.int underlying3) (RF.cons (k:=1) rfl (by kernel_rfl) (RB.int underlying3) (RF.cons (k:=1) rfl (by kernel_rfl) (RB.int underlying3) (RF.cons (k:=1) rfl (by kernel_rfl) (RB.int underlying3) (RF.cons (k:=1) rfl (by kernel_rfl) (RB.int underlying3) (RF.cons (k:=1) rfl (by kernel_rfl) (RB.int underlying3) (RF.cons (k:=1) rfl (by kernel_rfl) (RB.int underlying3) (RF.cons (k:=1) rfl (by kernel_rfl) (RB.int underlying3) RF.nil))))))))) (fun p=>⟨p.1,p.2.1,p.2.2.1,p.2.2.2.1,p.2.2.2.2.1,p.2.2.2.2.2.1,p.2.2.2.2.2.2.1,p.2.2.2.2.2.2.2.1⟩) (fun _=>rfl) (fun _ h=>h)).down
def Read.wf(x:Read):Prop:=(Qn .i64) x.Mat/\(Qn .i64) x.Epoch/\(Qn .i64) x.Chip/\(Qn .i64) x.Local/\True
theorem rd_61(n:Nat):RB prog n 61 Read Read.c Read.wf:=(QZ (RB.struct underlying61 (by kernel_rfl) (RF.cons (k:=1) rfl (by kernel_rfl) (RB.int underlying3) (RF.cons (k:=1) rfl (by kernel_rfl) (RB.int underlying3) (RF.cons (k:=1) rfl (by kernel_rfl) (RB.int underlying3) (RF.cons (k:=1) rfl (by kernel_rfl) (RB.int underlying3) RF.nil))))) (fun p=>⟨p.1,p.2.1,p.2.2.1,p.2.2.2.1⟩) (fun _=>rfl) (fun _ h=>h)).down
def Beacon.wf(x:Beacon):Prop:=(Qn .i64) x.Mat/\(Qn .i64) x.Epoch/\(Qn .i64) x.Local/\(Qn .i64) x.True/\(Qn .i64) x.Err/\_root_.True
theorem rd_63(n:Nat):RB prog n 63 Beacon Beacon.c Beacon.wf:=(QZ (RB.struct underlying63 (by kernel_rfl) (RF.cons (k:=1) rfl (by kernel_rfl) (RB.int underlying3) (RF.cons (k:=1) rfl (by kernel_rfl) (RB.int underlying3) (RF.cons (k:=1) rfl (by kernel_rfl) (RB.int underlying3) (RF.cons (k:=1) rfl (by kernel_rfl) (RB.int underlying3) (RF.cons (k:=1) rfl (by kernel_rfl) (RB.int underlying3) RF.nil)))))) (fun p=>⟨p.1,p.2.1,p.2.2.1,p.2.2.2.1,p.2.2.2.2.1⟩) (fun _=>rfl) (fun _ h=>h)).down
def Sync.wf(x:Sync):Prop:=(Qn .i64) x.MatA/\(Qn .i64) x.EpochA/\(Qn .i64) x.LocalA/\(Qn .i64) x.MatB/\(Qn .i64) x.EpochB/\(Qn .i64) x.LocalB/\(Qn .i64) x.Min/\(Qn .i64) x.Max/\True
theorem rd_65(n:Nat):RB prog n 65 Sync Sync.c Sync.wf:=(QZ (RB.struct underlying65 (by kernel_rfl) (RF.cons (k:=1) rfl (by kernel_rfl) (RB.int underlying3) (RF.cons (k:=1) rfl (by kernel_rfl) (RB.int underlying3) (RF.cons (k:=1) rfl (by kernel_rfl) (RB.int underlying3) (RF.cons (k:=1) rfl (by kernel_rfl) (RB.int underlying3) (RF.cons (k:=1) rfl (by kernel_rfl) (RB.int underlying3) (RF.cons (k:=1) rfl (by kernel_rfl) (RB.int underlying3) (RF.cons (k:=1) rfl (by kernel_rfl) (RB.int underlying3) (RF.cons (k:=1) rfl (by kernel_rfl) (RB.int underlying3) RF.nil))))))))) (fun p=>⟨p.1,p.2.1,p.2.2.1,p.2.2.2.1,p.2.2.2.2.1,p.2.2.2.2.2.1,p.2.2.2.2.2.2.1,p.2.2.2.2.2.2.2.1⟩) (fun _=>rfl) (fun _ h=>h)).down
def Hand.wf(x:Hand):Prop:=(Qn .i64) x.Bib/\(Qn .i64) x.Position/\(Qn .i64) x.Lo/\(Qn .i64) x.Hi/\True
theorem rd_67(n:Nat):RB prog n 67 Hand Hand.c Hand.wf:=(QZ (RB.struct underlying67 (by kernel_rfl) (RF.cons (k:=1) rfl (by kernel_rfl) (RB.int underlying3) (RF.cons (k:=1) rfl (by kernel_rfl) (RB.int underlying3) (RF.cons (k:=1) rfl (by kernel_rfl) (RB.int underlying3) (RF.cons (k:=1) rfl (by kernel_rfl) (RB.int underlying3) RF.nil))))) (fun p=>⟨p.1,p.2.1,p.2.2.1,p.2.2.2.1⟩) (fun _=>rfl) (fun _ h=>h)).down
def Silence.wf(x:Silence):Prop:=(Qn .i64) x.Mat/\(Qn .i64) x.Epoch/\(Qn .i64) x.Lo/\(Qn .i64) x.Hi/\True
theorem rd_69(n:Nat):RB prog n 69 Silence Silence.c Silence.wf:=(QZ (RB.struct underlying69 (by kernel_rfl) (RF.cons (k:=1) rfl (by kernel_rfl) (RB.int underlying3) (RF.cons (k:=1) rfl (by kernel_rfl) (RB.int underlying3) (RF.cons (k:=1) rfl (by kernel_rfl) (RB.int underlying3) (RF.cons (k:=1) rfl (by kernel_rfl) (RB.int underlying3) RF.nil))))) (fun p=>⟨p.1,p.2.1,p.2.2.1,p.2.2.2.1⟩) (fun _=>rfl) (fun _ h=>h)).down
def Pair.wf(x:Pair):Prop:=(Qn .i64) x.A/\(Qn .i64) x.B/\True
theorem rd_59(n:Nat):RB prog n 59 Pair Pair.c Pair.wf:=(QZ (RB.struct underlying59 (by kernel_rfl) (RF.cons (k:=1) rfl (by kernel_rfl) (RB.int underlying3) (RF.cons (k:=1) rfl (by kernel_rfl) (RB.int underlying3) RF.nil))) (fun p=>⟨p.1,p.2.1⟩) (fun _=>rfl) (fun _ h=>h)).down
def Report.wf(x:Report):Prop:=(Qn .i64) x.Case/\(Qn .i64) x.Bib/\(Qn .i64) x.Offence/\(Qn .i64) x.Position/\True
theorem rd_71(n:Nat):RB prog n 71 Report Report.c Report.wf:=(QZ (RB.struct underlying71 (by kernel_rfl) (RF.cons (k:=1) rfl (by kernel_rfl) (RB.int underlying3) (RF.cons (k:=1) rfl (by kernel_rfl) (RB.int underlying3) (RF.cons (k:=1) rfl (by kernel_rfl) (RB.int underlying3) (RF.cons (k:=1) rfl (by kernel_rfl) (RB.int underlying3) RF.nil))))) (fun p=>⟨p.1,p.2.1,p.2.2.1,p.2.2.2.1⟩) (fun _=>rfl) (fun _ h=>h)).down
def Protest.wf(x:Protest):Prop:=(Qn .i64) x.Case/\(Qn .i64) x.By/\(Qn .i64) x.Fee/\(Qn .i64) x.Form/\True
theorem rd_73(n:Nat):RB prog n 73 Protest Protest.c Protest.wf:=(QZ (RB.struct underlying73 (by kernel_rfl) (RF.cons (k:=1) rfl (by kernel_rfl) (RB.int underlying3) (RF.cons (k:=1) rfl (by kernel_rfl) (RB.int underlying3) (RF.cons (k:=1) rfl (by kernel_rfl) (RB.int underlying3) (RF.cons (k:=1) rfl (by kernel_rfl) (RB.int underlying3) RF.nil))))) (fun p=>⟨p.1,p.2.1,p.2.2.1,p.2.2.2.1⟩) (fun _=>rfl) (fun _ h=>h)).down
def Ruling.wf(x:Ruling):Prop:=(Qn .i64) x.Case/\(Qn .i64) x.Instance/\(Qn .i64) x.Kind/\(Qn .i64) x.Bib/\(Qn .i64) x.Position/\(Qn .i64) x.Amount/\True
theorem rd_75(n:Nat):RB prog n 75 Ruling Ruling.c Ruling.wf:=(QZ (RB.struct underlying75 (by kernel_rfl) (RF.cons (k:=1) rfl (by kernel_rfl) (RB.int underlying3) (RF.cons (k:=1) rfl (by kernel_rfl) (RB.int underlying3) (RF.cons (k:=1) rfl (by kernel_rfl) (RB.int underlying3) (RF.cons (k:=1) rfl (by kernel_rfl) (RB.int underlying3) (RF.cons (k:=1) rfl (by kernel_rfl) (RB.int underlying3) (RF.cons (k:=1) rfl (by kernel_rfl) (RB.int underlying3) RF.nil))))))) (fun p=>⟨p.1,p.2.1,p.2.2.1,p.2.2.2.1,p.2.2.2.2.1,p.2.2.2.2.2.1⟩) (fun _=>rfl) (fun _ h=>h)).down
def Appeal.wf(x:Appeal):Prop:=(Qn .i64) x.Case/\(fun _=>True) x.Suspends/\True
theorem rd_77(n:Nat):RB prog n 77 Appeal Appeal.c Appeal.wf:=(QZ (RB.struct underlying77 (by kernel_rfl) (RF.cons (k:=1) rfl (by kernel_rfl) (RB.int underlying3) (RF.cons (k:=1) rfl (by kernel_rfl) (RB.bool underlying4) RF.nil))) (fun p=>⟨p.1,p.2.1⟩) (fun _=>rfl) (fun _ h=>h)).down
def Ref.wf(x:Ref):Prop:=(Qn .i64) x.Crew/\(Qn .i64) x.No/\True
theorem rd_79(n:Nat):RB prog n 79 Ref Ref.c Ref.wf:=(QZ (RB.struct underlying79 (by kernel_rfl) (RF.cons (k:=1) rfl (by kernel_rfl) (RB.int underlying3) (RF.cons (k:=1) rfl (by kernel_rfl) (RB.int underlying3) RF.nil))) (fun p=>⟨p.1,p.2.1⟩) (fun _=>rfl) (fun _ h=>h)).down
def Fact.wf(x:Fact):Prop:=(Qn .i64) x.Crew/\(Qn .i64) x.No/\(Qn .i64) x.At/\(Qn .i64) x.Kind/\Starter.wf x.Starter/\Read.wf x.Read/\Beacon.wf x.Beacon/\Sync.wf x.Sync/\Hand.wf x.Hand/\Silence.wf x.Silence/\Pair.wf x.Pair/\Report.wf x.Report/\Protest.wf x.Protest/\Ruling.wf x.Ruling/\Appeal.wf x.Appeal/\Ref.wf x.Void/\True
theorem rd_81(n:Nat):RB prog n 81 Fact Fact.c Fact.wf:=(QZ (RB.struct underlying81 (by kernel_rfl) (RF.cons (k:=1) rfl (by kernel_rfl) (RB.int underlying3) (RF.cons (k:=1) rfl (by kernel_rfl) (RB.int underlying3) (RF.cons (k:=1) rfl (by kernel_rfl) (RB.int underlying3) (RF.cons (k:=1) rfl (by kernel_rfl) (RB.int underlying3) (RF.cons (k:=8) rfl (by kernel_rfl) (rd_50 n) (RF.cons (k:=4) rfl (by kernel_rfl) (rd_61 n) (RF.cons (k:=5) rfl (by kernel_rfl) (rd_63 n) (RF.cons (k:=8) rfl (by kernel_rfl) (rd_65 n) (RF.cons (k:=4) rfl (by kernel_rfl) (rd_67 n) (RF.cons (k:=4) rfl (by kernel_rfl) (rd_69 n) (RF.cons (k:=2) rfl (by kernel_rfl) (rd_59 n) (RF.cons (k:=4) rfl (by kernel_rfl) (rd_71 n) (RF.cons (k:=4) rfl (by kernel_rfl) (rd_73 n) (RF.cons (k:=6) rfl (by kernel_rfl) (rd_75 n) (RF.cons (k:=2) rfl (by kernel_rfl) (rd_77 n) (RF.cons (k:=2) rfl (by kernel_rfl) (rd_79 n) RF.nil))))))))))))))))) (fun p=>⟨p.1,p.2.1,p.2.2.1,p.2.2.2.1,p.2.2.2.2.1,p.2.2.2.2.2.1,p.2.2.2.2.2.2.1,p.2.2.2.2.2.2.2.1,p.2.2.2.2.2.2.2.2.1,p.2.2.2.2.2.2.2.2.2.1,p.2.2.2.2.2.2.2.2.2.2.1,p.2.2.2.2.2.2.2.2.2.2.2.1,p.2.2.2.2.2.2.2.2.2.2.2.2.1,p.2.2.2.2.2.2.2.2.2.2.2.2.2.1,p.2.2.2.2.2.2.2.2.2.2.2.2.2.2.1,p.2.2.2.2.2.2.2.2.2.2.2.2.2.2.2.1⟩) (fun _=>rfl) (fun _ h=>h)).down
end Go.Sw
