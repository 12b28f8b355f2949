/- How the arguments of HitsCheckSpec are read. -/
import Derived.Test.YtnlljbbflgfobaaGreatDoorW17CkA
set_option linter.unusedVariables false
set_option linter.unusedSimpArgs false
set_option maxRecDepth 100000
set_option maxHeartbeats 4000000
namespace Go.Sw
open Go.Proofs Tryz
def Mat.wf(x:Mat):Prop:=(fun s=>s.length<=1048576) x.Name/\(QN .i64) x.Kind/\True
theorem Qle(n:Nat):RB prog n 115 Mat Mat.c Mat.wf:=(YE (RB.struct underlying115 (by kernel_rfl) (RF.cons (k:=1) rfl (by kernel_rfl) (RB.string underlying9) (RF.cons (k:=1) rfl (by kernel_rfl) (RB.int underlying3) RF.nil))) (fun p=>⟨p.1,p.2.1⟩) (fun _=>rfl) (fun _ h=>h)).down
def Leg.wf(x:Leg):Prop:=(QN .i64) x.From/\(QN .i64) x.To/\(QN .i64) x.Min/\(QN .i64) x.Max/\True
theorem Qlf(n:Nat):RB prog n 103 Leg Leg.c Leg.wf:=(YE (RB.struct underlying103 (by kernel_rfl) (RF.cons (k:=1) rfl (by kernel_rfl) (RB.int underlying3) (RF.cons (k:=1) rfl (by kernel_rfl) (RB.int underlying3) (RF.cons (k:=1) rfl (by kernel_rfl) (RB.int underlying3) (RF.cons (k:=1) rfl (by kernel_rfl) (RB.int underlying3) RF.nil))))) (fun p=>⟨p.1,p.2.1,p.2.2.1,p.2.2.2.1⟩) (fun _=>rfl) (fun _ h=>h)).down
mutual
def Part.wf:Part->Prop
  |⟨x0,x1,x2⟩=>((QN .i64) x0)/\((QN .i64) x1)/\(x2.length<=1048576/\Part.wfs x2)/\True
def Part.wfs:List Part->Prop
  |[]=>True
  |x::l=>Part.wf x/\Part.wfs l
end
theorem Qcz(l:List Part):Part.wfs l↔ ∀x∈l,Part.wf x:=by
  induction l with
  |nil=>simp[Part.wfs]
  |cons x l ih=>simp[Part.wfs,ih]
theorem Qlb:∀n,RB prog n 125 Part Part.enc Part.wf:=Qdt (fun n ih=>YE (RB.struct underlying125 (by kernel_rfl) (RF.cons (k:=1) rfl (by kernel_rfl) (RB.int underlying3) (RF.cons (k:=1) rfl (by kernel_rfl) (RB.int underlying3) (RF.cons (k:=1) rfl (by kernel_rfl) (RB.slice (k:=3) underlying85 (by kernel_rfl) rfl (fun x=>by rw[QL];rfl) ih).down RF.nil)))) (fun p=>⟨p.1,p.2.1,p.2.2.1⟩) (fun p=>by simp[Part.enc,QcA,Qj,encB,Y5,Qjy]) (fun p h=>by simpa[Part.wf,Qcz]using h))
def Cutoff.wf(x:Cutoff):Prop:=(QN .i64) x.Mat/\(QN .i64) x.Lap/\(QN .i64) x.Limit/\True
theorem Qk7(n:Nat):RB prog n 159 Cutoff Cutoff.c Cutoff.wf:=(YE (RB.struct underlying159 (by kernel_rfl) (RF.cons (k:=1) rfl (by kernel_rfl) (RB.int underlying3) (RF.cons (k:=1) rfl (by kernel_rfl) (RB.int underlying3) (RF.cons (k:=1) rfl (by kernel_rfl) (RB.int underlying3) RF.nil)))) (fun p=>⟨p.1,p.2.1,p.2.2.1⟩) (fun _=>rfl) (fun _ h=>h)).down
def Distance.wf(x:Distance):Prop:=(fun s=>s.length<=1048576) x.Name/\(fun l=>l.length<=1048576/\ ∀x∈l,Part.wf x) x.Route/\(QN .i64) x.Timing/\(fun l=>l.length<=1048576/\ ∀x∈l,Cutoff.wf x) x.Cutoffs/\(QN .i64) x.Extra/\True
theorem rd_88(n:Nat):RB prog n 88 Distance Distance.c Distance.wf:=(YE (RB.struct underlying88 (by kernel_rfl) (RF.cons (k:=1) rfl (by kernel_rfl) (RB.string underlying9) (RF.cons (k:=1) rfl (by kernel_rfl) (RB.slice (k:=3) underlying85 (by kernel_rfl) rfl (fun x=>by rw[QL];rfl) (Qlb n)).down (RF.cons (k:=1) rfl (by kernel_rfl) (RB.int underlying3) (RF.cons (k:=1) rfl (by kernel_rfl) (RB.slice (k:=3) underlying86 (by kernel_rfl) rfl (fun _=>rfl) (Qk7 n)).down (RF.cons (k:=1) rfl (by kernel_rfl) (RB.int underlying3) RF.nil)))))) (fun p=>⟨p.1,p.2.1,p.2.2.1,p.2.2.2.1,p.2.2.2.2.1⟩) (fun _=>rfl) (fun _ h=>h)).down
def Wave.wf(x:Wave):Prop:=(fun s=>s.length<=1048576) x.Name/\(QN .i64) x.Gun/\True
theorem Qla(n:Nat):RB prog n 145 Wave Wave.c Wave.wf:=(YE (RB.struct underlying145 (by kernel_rfl) (RF.cons (k:=1) rfl (by kernel_rfl) (RB.string underlying9) (RF.cons (k:=1) rfl (by kernel_rfl) (RB.int underlying3) RF.nil))) (fun p=>⟨p.1,p.2.1⟩) (fun _=>rfl) (fun _ h=>h)).down
def Offence.wf(x:Offence):Prop:=(fun s=>s.length<=1048576) x.Name/\(QN .i64) x.Time/\(QN .i64) x.Laps/\(fun _=>True) x.Out/\True
theorem Qk9(n:Nat):RB prog n 149 Offence Offence.c Offence.wf:=(YE (RB.struct underlying149 (by kernel_rfl) (RF.cons (k:=1) rfl (by kernel_rfl) (RB.string underlying9) (RF.cons (k:=1) rfl (by kernel_rfl) (RB.int underlying3) (RF.cons (k:=1) rfl (by kernel_rfl) (RB.int underlying3) (RF.cons (k:=1) rfl (by kernel_rfl) (RB.bool underlying4) RF.nil))))) (fun p=>⟨p.1,p.2.1,p.2.2.1,p.2.2.2.1⟩) (fun _=>rfl) (fun _ h=>h)).down
def Category.wf(x:Category):Prop:=(fun s=>s.length<=1048576) x.Name/\(QN .i64) x.From/\(QN .i64) x.To/\True
theorem Qk8(n:Nat):RB prog n 153 Category Category.c Category.wf:=(YE (RB.struct underlying153 (by kernel_rfl) (RF.cons (k:=1) rfl (by kernel_rfl) (RB.string underlying9) (RF.cons (k:=1) rfl (by kernel_rfl) (RB.int underlying3) (RF.cons (k:=1) rfl (by kernel_rfl) (RB.int underlying3) RF.nil)))) (fun p=>⟨p.1,p.2.1,p.2.2.1⟩) (fun _=>rfl) (fun _ h=>h)).down
def Prize.wf(x:Prize):Prop:=(QN .i64) x.Distance/\(QN .i64) x.Category/\(QN .i64) x.Rank/\(QN .i64) x.Amount/\True
theorem Qk6(n:Nat):RB prog n 165 Prize Prize.c Prize.wf:=(YE (RB.struct underlying165 (by kernel_rfl) (RF.cons (k:=1) rfl (by kernel_rfl) (RB.int underlying3) (RF.cons (k:=1) rfl (by kernel_rfl) (RB.int underlying3) (RF.cons (k:=1) rfl (by kernel_rfl) (RB.int underlying3) (RF.cons (k:=1) rfl (by kernel_rfl) (RB.int underlying3) RF.nil))))) (fun p=>⟨p.1,p.2.1,p.2.2.1,p.2.2.2.1⟩) (fun _=>rfl) (fun _ h=>h)).down
mutual
def Cond.wf:Cond->Prop
  |⟨x0,x1,x2,x3⟩=>((QN .i64) x0)/\((QN .i64) x1)/\((QN .i64) x2)/\(x3.length<=1048576/\Cond.wfs x3)/\True
def Cond.wfs:List Cond->Prop
  |[]=>True
  |x::l=>Cond.wf x/\Cond.wfs l
end
theorem QcH(l:List Cond):Cond.wfs l↔ ∀x∈l,Cond.wf x:=by
  induction l with
  |nil=>simp[Cond.wfs]
  |cons x l ih=>simp[Cond.wfs,ih]
theorem Qld:∀n,RB prog n 118 Cond Cond.enc Cond.wf:=Qdt (fun n ih=>YE (RB.struct underlying118 (by kernel_rfl) (RF.cons (k:=1) rfl (by kernel_rfl) (RB.int underlying3) (RF.cons (k:=1) rfl (by kernel_rfl) (RB.int underlying3) (RF.cons (k:=1) rfl (by kernel_rfl) (RB.int underlying3) (RF.cons (k:=1) rfl (by kernel_rfl) (RB.slice (k:=4) underlying116 (by kernel_rfl) rfl (fun x=>by rw[Qao];rfl) ih).down RF.nil))))) (fun p=>⟨p.1,p.2.1,p.2.2.1,p.2.2.2.1⟩) (fun p=>by simp[Cond.enc,QcI,Qj,encB,Y5,Qjy]) (fun p h=>by simpa[Cond.wf,QcH]using h))
mutual
def Step.wf:Step->Prop
  |⟨x0,x1,x2,x3,x4⟩=>((QN .i64) x0)/\((QN .i64) x1)/\(Cond.wf x2)/\(x3.length<=1048576/\Step.wfs x3)/\(x4.length<=1048576/\Step.wfs x4)/\True
def Step.wfs:List Step->Prop
  |[]=>True
  |x::l=>Step.wf x/\Step.wfs l
end
theorem Qct(l:List Step):Step.wfs l↔ ∀x∈l,Step.wf x:=by
  induction l with
  |nil=>simp[Step.wfs]
  |cons x l ih=>simp[Step.wfs,ih]
theorem Qlc:∀n,RB prog n 120 Step Step.enc Step.wf:=Qdt (fun n ih=>YE (RB.struct underlying120 (by kernel_rfl) (RF.cons (k:=1) rfl (by kernel_rfl) (RB.int underlying3) (RF.cons (k:=1) rfl (by kernel_rfl) (RB.int underlying3) (RF.cons (k:=4) rfl (by kernel_rfl) (Qld n) (RF.cons (k:=1) rfl (by kernel_rfl) (RB.slice (k:=8) underlying63 (by kernel_rfl) rfl (fun x=>by rw[Yn];rfl) ih).down (RF.cons (k:=1) rfl (by kernel_rfl) (RB.slice (k:=8) underlying63 (by kernel_rfl) rfl (fun x=>by rw[Yn];rfl) ih).down RF.nil)))))) (fun p=>⟨p.1,p.2.1,p.2.2.1,p.2.2.2.1,p.2.2.2.2.1⟩) (fun p=>by simp[Step.enc,Qcu,Qj,encB,Y5,Qjy,Qao,Cond.c]) (fun p h=>by simpa[Step.wf,Qct]using h))
def Faults.wf(x:Faults):Prop:=(QN .i64) x.Misses/\(QN .i64) x.Strays/\(QN .i64) x.Window/\(QN .i64) x.Residual/\(QN .i64) x.Drift/\True
theorem rd_65(n:Nat):RB prog n 65 Faults Faults.c Faults.wf:=(YE (RB.struct underlying65 (by kernel_rfl) (RF.cons (k:=1) rfl (by kernel_rfl) (RB.int underlying3) (RF.cons (k:=1) rfl (by kernel_rfl) (RB.int underlying3) (RF.cons (k:=1) rfl (by kernel_rfl) (RB.int underlying3) (RF.cons (k:=1) rfl (by kernel_rfl) (RB.int underlying3) (RF.cons (k:=1) rfl (by kernel_rfl) (RB.int underlying3) RF.nil)))))) (fun p=>⟨p.1,p.2.1,p.2.2.1,p.2.2.2.1,p.2.2.2.2.1⟩) (fun _=>rfl) (fun _ h=>h)).down
def Course.wf(x:Course):Prop:=(fun s=>s.length<=1048576) x.Name/\(fun l=>l.length<=1048576/\ ∀x∈l,Mat.wf x) x.Mats/\(fun l=>l.length<=1048576/\ ∀x∈l,Leg.wf x) x.Legs/\(fun l=>l.length<=1048576/\ ∀x∈l,Distance.wf x) x.Distances/\(fun l=>l.length<=1048576/\ ∀x∈l,Wave.wf x) x.Waves/\(fun l=>l.length<=1048576/\ ∀x∈l,Offence.wf x) x.Offences/\(fun l=>l.length<=1048576/\ ∀x∈l,Category.wf x) x.Categories/\(fun l=>l.length<=1048576/\ ∀x∈l,Prize.wf x) x.Prizes/\(fun l=>l.length<=1048576/\ ∀x∈l,Step.wf x) x.Ties/\Faults.wf x.Faults/\(QN .i64) x.Fee/\(QN .i64) x.Deadline/\True
theorem rd_67(n:Nat):RB prog n 67 Course Course.c Course.wf:=(YE (RB.struct underlying67 (by kernel_rfl) (RF.cons (k:=1) rfl (by kernel_rfl) (RB.string underlying9) (RF.cons (k:=1) rfl (by kernel_rfl) (RB.slice (k:=2) underlying56 (by kernel_rfl) rfl (fun _=>rfl) (Qle n)).down (RF.cons (k:=1) rfl (by kernel_rfl) (RB.slice (k:=4) underlying57 (by kernel_rfl) rfl (fun _=>rfl) (Qlf n)).down (RF.cons (k:=1) rfl (by kernel_rfl) (RB.slice (k:=5) underlying58 (by kernel_rfl) rfl (fun _=>rfl) (rd_88 n)).down (RF.cons (k:=1) rfl (by kernel_rfl) (RB.slice (k:=2) underlying59 (by kernel_rfl) rfl (fun _=>rfl) (Qla n)).down (RF.cons (k:=1) rfl (by kernel_rfl) (RB.slice (k:=4) underlying60 (by kernel_rfl) rfl (fun _=>rfl) (Qk9 n)).down (RF.cons (k:=1) rfl (by kernel_rfl) (RB.slice (k:=3) underlying61 (by kernel_rfl) rfl (fun _=>rfl) (Qk8 n)).down (RF.cons (k:=1) rfl (by kernel_rfl) (RB.slice (k:=4) underlying62 (by kernel_rfl) rfl (fun _=>rfl) (Qk6 n)).down (RF.cons (k:=1) rfl (by kernel_rfl) (RB.slice (k:=8) underlying63 (by kernel_rfl) rfl (fun x=>by rw[Yn];rfl) (Qlc n)).down (RF.cons (k:=5) rfl (by kernel_rfl) (rd_65 n) (RF.cons (k:=1) rfl (by kernel_rfl) (RB.int underlying3) (RF.cons (k:=1) rfl (by kernel_rfl) (RB.int underlying3) RF.nil))))))))))))) (fun p=>⟨p.1,p.2.1,p.2.2.1,p.2.2.2.1,p.2.2.2.2.1,p.2.2.2.2.2.1,p.2.2.2.2.2.2.1,p.2.2.2.2.2.2.2.1,p.2.2.2.2.2.2.2.2.1,p.2.2.2.2.2.2.2.2.2.1,p.2.2.2.2.2.2.2.2.2.2.1,p.2.2.2.2.2.2.2.2.2.2.2.1⟩) (fun _=>rfl) (fun _ h=>h)).down
def Hit.wf(x:Hit):Prop:=(QN .i64) x.Mat/\(QN .i64) x.Epoch/\(QN .i64) x.Chip/\(QN .i64) x.First/\(QN .i64) x.Last/\True
theorem rd_26(n:Nat):RB prog n 26 Hit Hit.c Hit.wf:=(YE (RB.struct underlying26 (by kernel_rfl) (RF.cons (k:=1) rfl (by kernel_rfl) (RB.int underlying3) (RF.cons (k:=1) rfl (by kernel_rfl) (RB.int underlying3) (RF.cons (k:=1) rfl (by kernel_rfl) (RB.int underlying3) (RF.cons (k:=1) rfl (by kernel_rfl) (RB.int underlying3) (RF.cons (k:=1) rfl (by kernel_rfl) (RB.int underlying3) RF.nil)))))) (fun p=>⟨p.1,p.2.1,p.2.2.1,p.2.2.2.1,p.2.2.2.2.1⟩) (fun _=>rfl) (fun _ h=>h)).down
end Go.Sw
