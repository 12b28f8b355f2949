/- How the arguments of HitsMore are read. -/
import Derived.Test.YtnlljbbflgfobaaGreatDoorW17MoA
set_option linter.unusedVariables false
set_option linter.unusedSimpArgs false
set_option maxRecDepth 100000
set_option maxHeartbeats 4000000
namespace Go.Sw
open Go.Proofs Tryz
def Mat.wf(x:Mat):Prop:=(fun s=>s.length<=1048576) x.Name/\(Qh .i64) x.Kind/\True
theorem Qmi(n:Nat):RB prog n 115 Mat Mat.c Mat.wf:=(QF (RB.struct underlying115 (by kernel_rfl) (RF.cons (k:=1) rfl (by kernel_rfl) (RB.string underlying9) (RF.cons (k:=1) rfl (by kernel_rfl) (RB.int underlying3) RF.nil))) (fun p=>⟨p.1,p.2.1⟩) (fun _=>rfl) (fun _ h=>h)).down
def Leg.wf(x:Leg):Prop:=(Qh .i64) x.From/\(Qh .i64) x.To/\(Qh .i64) x.Min/\(Qh .i64) x.Max/\True
theorem Qmj(n:Nat):RB prog n 103 Leg Leg.c Leg.wf:=(QF (RB.struct underlying103 (by kernel_rfl) (RF.cons (k:=1) rfl (by kernel_rfl) (RB.int underlying3) (RF.cons (k:=1) rfl (by kernel_rfl) (RB.int underlying3) (RF.cons (k:=1) rfl (by kernel_rfl) (RB.int underlying3) (RF.cons (k:=1) rfl (by kernel_rfl) (RB.int underlying3) RF.nil))))) (fun p=>⟨p.1,p.2.1,p.2.2.1,p.2.2.2.1⟩) (fun _=>rfl) (fun _ h=>h)).down
mutual
def Part.wf:Part->Prop
  |⟨x0,x1,x2⟩=>((Qh .i64) x0)/\((Qh .i64) x1)/\(x2.length<=1048576/\Part.wfs x2)/\True
def Part.wfs:List Part->Prop
  |[]=>True
  |x::l=>Part.wf x/\Part.wfs l
end
theorem Qcv(l:List Part):Part.wfs l↔ ∀x∈l,Part.wf x:=by
  induction l with
  |nil=>simp[Part.wfs]
  |cons x l ih=>simp[Part.wfs,ih]
theorem Qmf:∀n,RB prog n 125 Part Part.enc Part.wf:=Qdy (fun n ih=>QF (RB.struct underlying125 (by kernel_rfl) (RF.cons (k:=1) rfl (by kernel_rfl) (RB.int underlying3) (RF.cons (k:=1) rfl (by kernel_rfl) (RB.int underlying3) (RF.cons (k:=1) rfl (by kernel_rfl) (RB.slice (k:=3) underlying85 (by kernel_rfl) rfl (fun x=>by rw[Yw];rfl) ih).down RF.nil)))) (fun p=>⟨p.1,p.2.1,p.2.2.1⟩) (fun p=>by simp[Part.enc,Qcw,Qj,encB,encS,Qkk]) (fun p h=>by simpa[Part.wf,Qcv]using h))
def Cutoff.wf(x:Cutoff):Prop:=(Qh .i64) x.Mat/\(Qh .i64) x.Lap/\(Qh .i64) x.Limit/\True
theorem Qmb(n:Nat):RB prog n 159 Cutoff Cutoff.c Cutoff.wf:=(QF (RB.struct underlying159 (by kernel_rfl) (RF.cons (k:=1) rfl (by kernel_rfl) (RB.int underlying3) (RF.cons (k:=1) rfl (by kernel_rfl) (RB.int underlying3) (RF.cons (k:=1) rfl (by kernel_rfl) (RB.int underlying3) RF.nil)))) (fun p=>⟨p.1,p.2.1,p.2.2.1⟩) (fun _=>rfl) (fun _ h=>h)).down
def Distance.wf(x:Distance):Prop:=(fun s=>s.length<=1048576) x.Name/\(fun l=>l.length<=1048576/\ ∀x∈l,Part.wf x) x.Route/\(Qh .i64) x.Timing/\(fun l=>l.length<=1048576/\ ∀x∈l,Cutoff.wf x) x.Cutoffs/\(Qh .i64) x.Extra/\True
theorem rd_88(n:Nat):RB prog n 88 Distance Distance.c Distance.wf:=(QF (RB.struct underlying88 (by kernel_rfl) (RF.cons (k:=1) rfl (by kernel_rfl) (RB.string underlying9) (RF.cons (k:=1) rfl (by kernel_rfl) (RB.slice (k:=3) underlying85 (by kernel_rfl) rfl (fun x=>by rw[Yw];rfl) (Qmf n)).down (RF.cons (k:=1) rfl (by kernel_rfl) (RB.int underlying3) (RF.cons (k:=1) rfl (by kernel_rfl) (RB.slice (k:=3) underlying86 (by kernel_rfl) rfl (fun _=>rfl) (Qmb n)).down (RF.cons (k:=1) rfl (by kernel_rfl) (RB.int underlying3) RF.nil)))))) (fun p=>⟨p.1,p.2.1,p.2.2.1,p.2.2.2.1,p.2.2.2.2.1⟩) (fun _=>rfl) (fun _ h=>h)).down
def Wave.wf(x:Wave):Prop:=(fun s=>s.length<=1048576) x.Name/\(Qh .i64) x.Gun/\True
theorem Qme(n:Nat):RB prog n 145 Wave Wave.c Wave.wf:=(QF (RB.struct underlying145 (by kernel_rfl) (RF.cons (k:=1) rfl (by kernel_rfl) (RB.string underlying9) (RF.cons (k:=1) rfl (by kernel_rfl) (RB.int underlying3) RF.nil))) (fun p=>⟨p.1,p.2.1⟩) (fun _=>rfl) (fun _ h=>h)).down
def Offence.wf(x:Offence):Prop:=(fun s=>s.length<=1048576) x.Name/\(Qh .i64) x.Time/\(Qh .i64) x.Laps/\(fun _=>True) x.Out/\True
theorem Qmd(n:Nat):RB prog n 149 Offence Offence.c Offence.wf:=(QF (RB.struct underlying149 (by kernel_rfl) (RF.cons (k:=1) rfl (by kernel_rfl) (RB.string underlying9) (RF.cons (k:=1) rfl (by kernel_rfl) (RB.int underlying3) (RF.cons (k:=1) rfl (by kernel_rfl) (RB.int underlying3) (RF.cons (k:=1) rfl (by kernel_rfl) (RB.bool underlying4) RF.nil))))) (fun p=>⟨p.1,p.2.1,p.2.2.1,p.2.2.2.1⟩) (fun _=>rfl) (fun _ h=>h)).down
def Category.wf(x:Category):Prop:=(fun s=>s.length<=1048576) x.Name/\(Qh .i64) x.From/\(Qh .i64) x.To/\True
theorem Qmc(n:Nat):RB prog n 153 Category Category.c Category.wf:=(QF (RB.struct underlying153 (by kernel_rfl) (RF.cons (k:=1) rfl (by kernel_rfl) (RB.string underlying9) (RF.cons (k:=1) rfl (by kernel_rfl) (RB.int underlying3) (RF.cons (k:=1) rfl (by kernel_rfl) (RB.int underlying3) RF.nil)))) (fun p=>⟨p.1,p.2.1,p.2.2.1⟩) (fun _=>rfl) (fun _ h=>h)).down
def Prize.wf(x:Prize):Prop:=(Qh .i64) x.Distance/\(Qh .i64) x.Category/\(Qh .i64) x.Rank/\(Qh .i64) x.Amount/\True
theorem Qma(n:Nat):RB prog n 165 Prize Prize.c Prize.wf:=(QF (RB.struct underlying165 (by kernel_rfl) (RF.cons (k:=1) rfl (by kernel_rfl) (RB.int underlying3) (RF.cons (k:=1) rfl (by kernel_rfl) (RB.int underlying3) (RF.cons (k:=1) rfl (by kernel_rfl) (RB.int underlying3) (RF.cons (k:=1) rfl (by kernel_rfl) (RB.int underlying3) RF.nil))))) (fun p=>⟨p.1,p.2.1,p.2.2.1,p.2.2.2.1⟩) (fun _=>rfl) (fun _ h=>h)).down
mutual
def Cond.wf:Cond->Prop
  |⟨x0,x1,x2,x3⟩=>((Qh .i64) x0)/\((Qh .i64) x1)/\((Qh .i64) x2)/\(x3.length<=1048576/\Cond.wfs x3)/\True
def Cond.wfs:List Cond->Prop
  |[]=>True
  |x::l=>Cond.wf x/\Cond.wfs l
end
theorem QcC(l:List Cond):Cond.wfs l↔ ∀x∈l,Cond.wf x:=by
  induction l with
  |nil=>simp[Cond.wfs]
  |cons x l ih=>simp[Cond.wfs,ih]
theorem Qmh:∀n,RB prog n 118 Cond Cond.enc Cond.wf:=Qdy (fun n ih=>QF (RB.struct underlying118 (by kernel_rfl) (RF.cons (k:=1) rfl (by kernel_rfl) (RB.int underlying3) (RF.cons (k:=1) rfl (by kernel_rfl) (RB.int underlying3) (RF.cons (k:=1) rfl (by kernel_rfl) (RB.int underlying3) (RF.cons (k:=1) rfl (by kernel_rfl) (RB.slice (k:=4) underlying116 (by kernel_rfl) rfl (fun x=>by rw[QaM];rfl) ih).down RF.nil))))) (fun p=>⟨p.1,p.2.1,p.2.2.1,p.2.2.2.1⟩) (fun p=>by simp[Cond.enc,QcD,Qj,encB,encS,Qkk]) (fun p h=>by simpa[Cond.wf,QcC]using h))
mutual
def Step.wf:Step->Prop
  |⟨x0,x1,x2,x3,x4⟩=>((Qh .i64) x0)/\((Qh .i64) x1)/\(Cond.wf x2)/\(x3.length<=1048576/\Step.wfs x3)/\(x4.length<=1048576/\Step.wfs x4)/\True
def Step.wfs:List Step->Prop
  |[]=>True
  |x::l=>Step.wf x/\Step.wfs l
end
theorem Qcp(l:List Step):Step.wfs l↔ ∀x∈l,Step.wf x:=by
  induction l with
  |nil=>simp[Step.wfs]
  |cons x l ih=>simp[Step.wfs,ih]
theorem Qmg:∀n,RB prog n 120 Step Step.enc Step.wf:=Qdy (fun n ih=>QF (RB.struct underlying120 (by kernel_rfl) (RF.cons (k:=1) rfl (by kernel_rfl) (RB.int underlying3) (RF.cons (k:=1) rfl (by kernel_rfl) (RB.int underlying3) (RF.cons (k:=4) rfl (by kernel_rfl) (Qmh n) (RF.cons (k:=1) rfl (by kernel_rfl) (RB.slice (k:=8) underlying63 (by kernel_rfl) rfl (fun x=>by rw[Yv];rfl) ih).down (RF.cons (k:=1) rfl (by kernel_rfl) (RB.slice (k:=8) underlying63 (by kernel_rfl) rfl (fun x=>by rw[Yv];rfl) ih).down RF.nil)))))) (fun p=>⟨p.1,p.2.1,p.2.2.1,p.2.2.2.1,p.2.2.2.2.1⟩) (fun p=>by simp[Step.enc,Qcq,Qj,encB,encS,Qkk,QaM,Cond.c]) (fun p h=>by simpa[Step.wf,Qcp]using h))
def Faults.wf(x:Faults):Prop:=(Qh .i64) x.Misses/\(Qh .i64) x.Strays/\(Qh .i64) x.Window/\(Qh .i64) x.Residual/\(Qh .i64) x.Drift/\True
theorem rd_65(n:Nat):RB prog n 65 Faults Faults.c Faults.wf:=(QF (RB.struct underlying65 (by kernel_rfl) (RF.cons (k:=1) rfl (by kernel_rfl) (RB.int underlying3) (RF.cons (k:=1) rfl (by kernel_rfl) (RB.int underlying3) (RF.cons (k:=1) rfl (by kernel_rfl) (RB.int underlying3) (RF.cons (k:=1) rfl (by kernel_rfl) (RB.int underlying3) (RF.cons (k:=1) rfl (by kernel_rfl) (RB.int underlying3) RF.nil)))))) (fun p=>⟨p.1,p.2.1,p.2.2.1,p.2.2.2.1,p.2.2.2.2.1⟩) (fun _=>rfl) (fun _ h=>h)).down
def Course.wf(x:Course):Prop:=(fun s=>s.length<=1048576) x.Name/\(fun l=>l.length<=1048576/\ ∀x∈l,Mat.wf x) x.Mats/\(fun l=>l.length<=1048576/\ ∀x∈l,Leg.wf x) x.Legs/\(fun l=>l.length<=1048576/\ ∀x∈l,Distance.wf x) x.Distances/\(fun l=>l.length<=1048576/\ ∀x∈l,Wave.wf x) x.Waves/\(fun l=>l.length<=1048576/\ ∀x∈l,Offence.wf x) x.Offences/\(fun l=>l.length<=1048576/\ ∀x∈l,Category.wf x) x.Categories/\(fun l=>l.length<=1048576/\ ∀x∈l,Prize.wf x) x.Prizes/\(fun l=>l.length<=1048576/\ ∀x∈l,Step.wf x) x.Ties/\Faults.wf x.Faults/\(Qh .i64) x.Fee/\(Qh .i64) x.Deadline/\True
theorem rd_67(n:Nat):RB prog n 67 Course Course.c Course.wf:=(QF (RB.struct underlying67 (by kernel_rfl) (RF.cons (k:=1) rfl (by kernel_rfl) (RB.string underlying9) (RF.cons (k:=1) rfl (by kernel_rfl) (RB.slice (k:=2) underlying56 (by kernel_rfl) rfl (fun _=>rfl) (Qmi n)).down (RF.cons (k:=1) rfl (by kernel_rfl) (RB.slice (k:=4) underlying57 (by kernel_rfl) rfl (fun _=>rfl) (Qmj n)).down (RF.cons (k:=1) rfl (by kernel_rfl) (RB.slice (k:=5) underlying58 (by kernel_rfl) rfl (fun _=>rfl) (rd_88 n)).down (RF.cons (k:=1) rfl (by kernel_rfl) (RB.slice (k:=2) underlying59 (by kernel_rfl) rfl (fun _=>rfl) (Qme n)).down (RF.cons (k:=1) rfl (by kernel_rfl) (RB.slice (k:=4) underlying60 (by kernel_rfl) rfl (fun _=>rfl) (Qmd n)).down (RF.cons (k:=1) rfl (by kernel_rfl) (RB.slice (k:=3) underlying61 (by kernel_rfl) rfl (fun _=>rfl) (Qmc n)).down (RF.cons (k:=1) rfl (by kernel_rfl) (RB.slice (k:=4) underlying62 (by kernel_rfl) rfl (fun _=>rfl) (Qma n)).down (RF.cons (k:=1) rfl (by kernel_rfl) (RB.slice (k:=8) underlying63 (by kernel_rfl) rfl (fun x=>by rw[Yv];rfl) (Qmg n)).down (RF.cons (k:=5) rfl (by kernel_rfl) (rd_65 n) (RF.cons (k:=1) rfl (by kernel_rfl) (RB.int underlying3) (RF.cons (k:=1) rfl (by kernel_rfl) (RB.int underlying3) RF.nil))))))))))))) (fun p=>⟨p.1,p.2.1,p.2.2.1,p.2.2.2.1,p.2.2.2.2.1,p.2.2.2.2.2.1,p.2.2.2.2.2.2.1,p.2.2.2.2.2.2.2.1,p.2.2.2.2.2.2.2.2.1,p.2.2.2.2.2.2.2.2.2.1,p.2.2.2.2.2.2.2.2.2.2.1,p.2.2.2.2.2.2.2.2.2.2.2.1⟩) (fun _=>rfl) (fun _ h=>h)).down
def Starter.wf(x:Starter):Prop:=(Qh .i64) x.Bib/\(Qh .i64) x.Distance/\(Qh .i64) x.Wave/\(Qh .i64) x.Slot/\(Qh .i64) x.Age/\(Qh .i64) x.Chip/\(Qh .i64) x.Team/\(Qh .i64) x.Lot/\True
theorem rd_30(n:Nat):RB prog n 30 Starter Starter.c Starter.wf:=(QF (RB.struct underlying30 (by kernel_rfl) (RF.cons (k:=1) rfl (by kernel_rfl) (RB.int underlying3) (RF.cons (k:=1) rfl (by kernel_rfl) (RB.int underlying3) (RF.cons (k:=1) rfl (by kernel_rfl) (RB.int underlying3) (RF.cons (k:=1) rfl (by kernel_rfl) (RB.int underlying3) (RF.cons (k:=1) rfl (by kernel_rfl) (RB.int underlying3) (RF.cons (k:=1) rfl (by kernel_rfl) (RB.int underlying3) (RF.cons (k:=1) rfl (by kernel_rfl) (RB.int underlying3) (RF.cons (k:=1) rfl (by kernel_rfl) (RB.int underlying3) RF.nil))))))))) (fun p=>⟨p.1,p.2.1,p.2.2.1,p.2.2.2.1,p.2.2.2.2.1,p.2.2.2.2.2.1,p.2.2.2.2.2.2.1,p.2.2.2.2.2.2.2.1⟩) (fun _=>rfl) (fun _ h=>h)).down
def Read.wf(x:Read):Prop:=(Qh .i64) x.Mat/\(Qh .i64) x.Epoch/\(Qh .i64) x.Chip/\(Qh .i64) x.Local/\True
theorem rd_24(n:Nat):RB prog n 24 Read Read.c Read.wf:=(QF (RB.struct underlying24 (by kernel_rfl) (RF.cons (k:=1) rfl (by kernel_rfl) (RB.int underlying3) (RF.cons (k:=1) rfl (by kernel_rfl) (RB.int underlying3) (RF.cons (k:=1) rfl (by kernel_rfl) (RB.int underlying3) (RF.cons (k:=1) rfl (by kernel_rfl) (RB.int underlying3) RF.nil))))) (fun p=>⟨p.1,p.2.1,p.2.2.1,p.2.2.2.1⟩) (fun _=>rfl) (fun _ h=>h)).down
def Beacon.wf(x:Beacon):Prop:=(Qh .i64) x.Mat/\(Qh .i64) x.Epoch/\(Qh .i64) x.Local/\(Qh .i64) x.True/\(Qh .i64) x.Err/\_root_.True
theorem rd_32(n:Nat):RB prog n 32 Beacon Beacon.c Beacon.wf:=(QF (RB.struct underlying32 (by kernel_rfl) (RF.cons (k:=1) rfl (by kernel_rfl) (RB.int underlying3) (RF.cons (k:=1) rfl (by kernel_rfl) (RB.int underlying3) (RF.cons (k:=1) rfl (by kernel_rfl) (RB.int underlying3) (RF.cons (k:=1) rfl (by kernel_rfl) (RB.int underlying3) (RF.cons (k:=1) rfl (by kernel_rfl) (RB.int underlying3) RF.nil)))))) (fun p=>⟨p.1,p.2.1,p.2.2.1,p.2.2.2.1,p.2.2.2.2.1⟩) (fun _=>rfl) (fun _ h=>h)).down
def Sync.wf(x:Sync):Prop:=(Qh .i64) x.MatA/\(Qh .i64) x.EpochA/\(Qh .i64) x.LocalA/\(Qh .i64) x.MatB/\(Qh .i64) x.EpochB/\(Qh .i64) x.LocalB/\(Qh .i64) x.Min/\(Qh .i64) x.Max/\True
theorem rd_34(n:Nat):RB prog n 34 Sync Sync.c Sync.wf:=(QF (RB.struct underlying34 (by kernel_rfl) (RF.cons (k:=1) rfl (by kernel_rfl) (RB.int underlying3) (RF.cons (k:=1) rfl (by kernel_rfl) (RB.int underlying3) (RF.cons (k:=1) rfl (by kernel_rfl) (RB.int underlying3) (RF.cons (k:=1) rfl (by kernel_rfl) (RB.int underlying3) (RF.cons (k:=1) rfl (by kernel_rfl) (RB.int underlying3) (RF.cons (k:=1) rfl (by kernel_rfl) (RB.int underlying3) (RF.cons (k:=1) rfl (by kernel_rfl) (RB.int underlying3) (RF.cons (k:=1) rfl (by kernel_rfl) (RB.int underlying3) RF.nil))))))))) (fun p=>⟨p.1,p.2.1,p.2.2.1,p.2.2.2.1,p.2.2.2.2.1,p.2.2.2.2.2.1,p.2.2.2.2.2.2.1,p.2.2.2.2.2.2.2.1⟩) (fun _=>rfl) (fun _ h=>h)).down
def Hand.wf(x:Hand):Prop:=(Qh .i64) x.Bib/\(Qh .i64) x.Position/\(Qh .i64) x.Lo/\(Qh .i64) x.Hi/\True
theorem rd_36(n:Nat):RB prog n 36 Hand Hand.c Hand.wf:=(QF (RB.struct underlying36 (by kernel_rfl) (RF.cons (k:=1) rfl (by kernel_rfl) (RB.int underlying3) (RF.cons (k:=1) rfl (by kernel_rfl) (RB.int underlying3) (RF.cons (k:=1) rfl (by kernel_rfl) (RB.int underlying3) (RF.cons (k:=1) rfl (by kernel_rfl) (RB.int underlying3) RF.nil))))) (fun p=>⟨p.1,p.2.1,p.2.2.1,p.2.2.2.1⟩) (fun _=>rfl) (fun _ h=>h)).down
def Silence.wf(x:Silence):Prop:=(Qh .i64) x.Mat/\(Qh .i64) x.Epoch/\(Qh .i64) x.Lo/\(Qh .i64) x.Hi/\True
theorem rd_38(n:Nat):RB prog n 38 Silence Silence.c Silence.wf:=(QF (RB.struct underlying38 (by kernel_rfl) (RF.cons (k:=1) rfl (by kernel_rfl) (RB.int underlying3) (RF.cons (k:=1) rfl (by kernel_rfl) (RB.int underlying3) (RF.cons (k:=1) rfl (by kernel_rfl) (RB.int underlying3) (RF.cons (k:=1) rfl (by kernel_rfl) (RB.int underlying3) RF.nil))))) (fun p=>⟨p.1,p.2.1,p.2.2.1,p.2.2.2.1⟩) (fun _=>rfl) (fun _ h=>h)).down
def Pair.wf(x:Pair):Prop:=(Qh .i64) x.A/\(Qh .i64) x.B/\True
theorem rd_40(n:Nat):RB prog n 40 Pair Pair.c Pair.wf:=(QF (RB.struct underlying40 (by kernel_rfl) (RF.cons (k:=1) rfl (by kernel_rfl) (RB.int underlying3) (RF.cons (k:=1) rfl (by kernel_rfl) (RB.int underlying3) RF.nil))) (fun p=>⟨p.1,p.2.1⟩) (fun _=>rfl) (fun _ h=>h)).down
def Report.wf(x:Report):Prop:=(Qh .i64) x.Case/\(Qh .i64) x.Bib/\(Qh .i64) x.Offence/\(Qh .i64) x.Position/\True
theorem rd_42(n:Nat):RB prog n 42 Report Report.c Report.wf:=(QF (RB.struct underlying42 (by kernel_rfl) (RF.cons (k:=1) rfl (by kernel_rfl) (RB.int underlying3) (RF.cons (k:=1) rfl (by kernel_rfl) (RB.int underlying3) (RF.cons (k:=1) rfl (by kernel_rfl) (RB.int underlying3) (RF.cons (k:=1) rfl (by kernel_rfl) (RB.int underlying3) RF.nil))))) (fun p=>⟨p.1,p.2.1,p.2.2.1,p.2.2.2.1⟩) (fun _=>rfl) (fun _ h=>h)).down
def Protest.wf(x:Protest):Prop:=(Qh .i64) x.Case/\(Qh .i64) x.By/\(Qh .i64) x.Fee/\(Qh .i64) x.Form/\True
theorem rd_44(n:Nat):RB prog n 44 Protest Protest.c Protest.wf:=(QF (RB.struct underlying44 (by kernel_rfl) (RF.cons (k:=1) rfl (by kernel_rfl) (RB.int underlying3) (RF.cons (k:=1) rfl (by kernel_rfl) (RB.int underlying3) (RF.cons (k:=1) rfl (by kernel_rfl) (RB.int underlying3) (RF.cons (k:=1) rfl (by kernel_rfl) (RB.int underlying3) RF.nil))))) (fun p=>⟨p.1,p.2.1,p.2.2.1,p.2.2.2.1⟩) (fun _=>rfl) (fun _ h=>h)).down
def Ruling.wf(x:Ruling):Prop:=(Qh .i64) x.Case/\(Qh .i64) x.Instance/\(Qh .i64) x.Kind/\(Qh .i64) x.Bib/\(Qh .i64) x.Position/\(Qh .i64) x.Amount/\True
theorem rd_46(n:Nat):RB prog n 46 Ruling Ruling.c Ruling.wf:=(QF (RB.struct underlying46 (by kernel_rfl) (RF.cons (k:=1) rfl (by kernel_rfl) (RB.int underlying3) (RF.cons (k:=1) rfl (by kernel_rfl) (RB.int underlying3) (RF.cons (k:=1) rfl (by kernel_rfl) (RB.int underlying3) (RF.cons (k:=1) rfl (by kernel_rfl) (RB.int underlying3) (RF.cons (k:=1) rfl (by kernel_rfl) (RB.int underlying3) (RF.cons (k:=1) rfl (by kernel_rfl) (RB.int underlying3) RF.nil))))))) (fun p=>⟨p.1,p.2.1,p.2.2.1,p.2.2.2.1,p.2.2.2.2.1,p.2.2.2.2.2.1⟩) (fun _=>rfl) (fun _ h=>h)).down
def Appeal.wf(x:Appeal):Prop:=(Qh .i64) x.Case/\(fun _=>True) x.Suspends/\True
theorem rd_48(n:Nat):RB prog n 48 Appeal Appeal.c Appeal.wf:=(QF (RB.struct underlying48 (by kernel_rfl) (RF.cons (k:=1) rfl (by kernel_rfl) (RB.int underlying3) (RF.cons (k:=1) rfl (by kernel_rfl) (RB.bool underlying4) RF.nil))) (fun p=>⟨p.1,p.2.1⟩) (fun _=>rfl) (fun _ h=>h)).down
def Ref.wf(x:Ref):Prop:=(Qh .i64) x.Crew/\(Qh .i64) x.No/\True
theorem rd_50(n:Nat):RB prog n 50 Ref Ref.c Ref.wf:=(QF (RB.struct underlying50 (by kernel_rfl) (RF.cons (k:=1) rfl (by kernel_rfl) (RB.int underlying3) (RF.cons (k:=1) rfl (by kernel_rfl) (RB.int underlying3) RF.nil))) (fun p=>⟨p.1,p.2.1⟩) (fun _=>rfl) (fun _ h=>h)).down
def Fact.wf(x:Fact):Prop:=(Qh .i64) x.Crew/\(Qh .i64) x.No/\(Qh .i64) x.At/\(Qh .i64) x.Kind/\Starter.wf x.Starter/\Read.wf x.Read/\Beacon.wf x.Beacon/\Sync.wf x.Sync/\Hand.wf x.Hand/\Silence.wf x.Silence/\Pair.wf x.Pair/\Report.wf x.Report/\Protest.wf x.Protest/\Ruling.wf x.Ruling/\Appeal.wf x.Appeal/\Ref.wf x.Void/\True
theorem QlL(n:Nat):RB prog n 52 Fact Fact.c Fact.wf:=(QF (RB.struct underlying52 (by kernel_rfl) (RF.cons (k:=1) rfl (by kernel_rfl) (RB.int underlying3) (RF.cons (k:=1) rfl (by kernel_rfl) (RB.int underlying3) (RF.cons (k:=1) rfl (by kernel_rfl) (RB.int underlying3) (RF.cons (k:=1) rfl (by kernel_rfl) (RB.int underlying3) (RF.cons (k:=8) rfl (by kernel_rfl) (rd_30 n) (RF.cons (k:=4) rfl (by kernel_rfl) (rd_24 n) (RF.cons (k:=5) rfl (by kernel_rfl) (rd_32 n) (RF.cons (k:=8) rfl (by kernel_rfl) (rd_34 n) (RF.cons (k:=4) rfl (by kernel_rfl) (rd_36 n) (RF.cons (k:=4) rfl (by kernel_rfl) (rd_38 n) (RF.cons (k:=2) rfl (by kernel_rfl) (rd_40 n) (RF.cons (k:=4) rfl (by kernel_rfl) (rd_42 n) (RF.cons (k:=4) rfl (by kernel_rfl) (rd_44 n) (RF.cons (k:=6) rfl (by kernel_rfl) (rd_46 n) (RF.cons (k:=2) rfl (by kernel_rfl) (rd_48 n) (RF.cons (k:=2) rfl (by kernel_rfl) (rd_50 n) RF.nil))))))))))))))))) (fun p=>⟨p.1,p.2.1,p.2.2.1,p.2.2.2.1,p.2.2.2.2.1,p.2.2.2.2.2.1,p.2.2.2.2.2.2.1,p.2.2.2.2.2.2.2.1,p.2.2.2.2.2.2.2.2.1,p.2.2.2.2.2.2.2.2.2.1,p.2.2.2.2.2.2.2.2.2.2.1,p.2.2.2.2.2.2.2.2.2.2.2.1,p.2.2.2.2.2.2.2.2.2.2.2.2.1,p.2.2.2.2.2.2.2.2.2.2.2.2.2.1,p.2.2.2.2.2.2.2.2.2.2.2.2.2.2.1,p.2.2.2.2.2.2.2.2.2.2.2.2.2.2.2.1⟩) (fun _=>rfl) (fun _ h=>h)).down
end Go.Sw
