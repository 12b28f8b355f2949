/- How the arguments of PrizesEither are read. -/
import Derived.Test.YtkfjchmhgpkcbaaGreatW31EiA
set_option linter.unusedVariables false
set_option linter.unusedSimpArgs false
set_option maxRecDepth 100000
set_option maxHeartbeats 4000000
namespace Go.Sw
open Go.Proofs Tryz
def Mat.wf(x:Mat):Prop:=(fun s=>s.length<=1048576) x.Name/\(QE .i64) x.Kind/\True
theorem QmW(n:Nat):RB prog n 101 Mat Mat.c Mat.wf:=(Yf (RB.struct underlying101 (by kernel_rfl) (RF.cons (k:=1) rfl (by kernel_rfl) (RB.string underlying9) (RF.cons (k:=1) rfl (by kernel_rfl) (RB.int underlying3) RF.nil))) (fun p=>⟨p.1,p.2.1⟩) (fun _=>rfl) (fun _ h=>h)).down
def Leg.wf(x:Leg):Prop:=(QE .i64) x.From/\(QE .i64) x.To/\(QE .i64) x.Min/\(QE .i64) x.Max/\True
theorem QmV(n:Nat):RB prog n 135 Leg Leg.c Leg.wf:=(Yf (RB.struct underlying135 (by kernel_rfl) (RF.cons (k:=1) rfl (by kernel_rfl) (RB.int underlying3) (RF.cons (k:=1) rfl (by kernel_rfl) (RB.int underlying3) (RF.cons (k:=1) rfl (by kernel_rfl) (RB.int underlying3) (RF.cons (k:=1) rfl (by kernel_rfl) (RB.int underlying3) RF.nil))))) (fun p=>⟨p.1,p.2.1,p.2.2.1,p.2.2.2.1⟩) (fun _=>rfl) (fun _ h=>h)).down
mutual
def Part.wf:Part->Prop
  |⟨x0,x1,x2⟩=>((QE .i64) x0)/\((QE .i64) x1)/\(x2.length<=1048576/\Part.wfs x2)/\True
def Part.wfs:List Part->Prop
  |[]=>True
  |x::l=>Part.wf x/\Part.wfs l
end
theorem QcH(l:List Part):Part.wfs l↔ ∀x∈l,Part.wf x:=by
  induction l with
  |nil=>simp[Part.wfs]
  |cons x l ih=>simp[Part.wfs,ih]
theorem QmU:∀n,RB prog n 137 Part Part.enc Part.wf:=QdB (fun n ih=>Yf (RB.struct underlying137 (by kernel_rfl) (RF.cons (k:=1) rfl (by kernel_rfl) (RB.int underlying3) (RF.cons (k:=1) rfl (by kernel_rfl) (RB.int underlying3) (RF.cons (k:=1) rfl (by kernel_rfl) (RB.slice (k:=3) underlying96 (by kernel_rfl) rfl (fun x=>by rw[Y5];rfl) ih).down RF.nil)))) (fun p=>⟨p.1,p.2.1,p.2.2.1⟩) (fun p=>by simp[Part.enc,QcI,Qe,encB,encS,YE]) (fun p h=>by simpa[Part.wf,QcH]using h))
def Cutoff.wf(x:Cutoff):Prop:=(QE .i64) x.Mat/\(QE .i64) x.Lap/\(QE .i64) x.Limit/\True
theorem QmL(n:Nat):RB prog n 249 Cutoff Cutoff.c Cutoff.wf:=(Yf (RB.struct underlying249 (by kernel_rfl) (RF.cons (k:=1) rfl (by kernel_rfl) (RB.int underlying3) (RF.cons (k:=1) rfl (by kernel_rfl) (RB.int underlying3) (RF.cons (k:=1) rfl (by kernel_rfl) (RB.int underlying3) RF.nil)))) (fun p=>⟨p.1,p.2.1,p.2.2.1⟩) (fun _=>rfl) (fun _ h=>h)).down
def Distance.wf(x:Distance):Prop:=(fun s=>s.length<=1048576) x.Name/\(fun l=>l.length<=1048576/\ ∀x∈l,Part.wf x) x.Route/\(QE .i64) x.Timing/\(fun l=>l.length<=1048576/\ ∀x∈l,Cutoff.wf x) x.Cutoffs/\(QE .i64) x.Extra/\True
theorem rd_99(n:Nat):RB prog n 99 Distance Distance.c Distance.wf:=(Yf (RB.struct underlying99 (by kernel_rfl) (RF.cons (k:=1) rfl (by kernel_rfl) (RB.string underlying9) (RF.cons (k:=1) rfl (by kernel_rfl) (RB.slice (k:=3) underlying96 (by kernel_rfl) rfl (fun x=>by rw[Y5];rfl) (QmU n)).down (RF.cons (k:=1) rfl (by kernel_rfl) (RB.int underlying3) (RF.cons (k:=1) rfl (by kernel_rfl) (RB.slice (k:=3) underlying97 (by kernel_rfl) rfl (fun _=>rfl) (QmL n)).down (RF.cons (k:=1) rfl (by kernel_rfl) (RB.int underlying3) RF.nil)))))) (fun p=>⟨p.1,p.2.1,p.2.2.1,p.2.2.2.1,p.2.2.2.2.1⟩) (fun _=>rfl) (fun _ h=>h)).down
def Wave.wf(x:Wave):Prop:=(fun s=>s.length<=1048576) x.Name/\(QE .i64) x.Gun/\True
theorem QmT(n:Nat):RB prog n 139 Wave Wave.c Wave.wf:=(Yf (RB.struct underlying139 (by kernel_rfl) (RF.cons (k:=1) rfl (by kernel_rfl) (RB.string underlying9) (RF.cons (k:=1) rfl (by kernel_rfl) (RB.int underlying3) RF.nil))) (fun p=>⟨p.1,p.2.1⟩) (fun _=>rfl) (fun _ h=>h)).down
def Offence.wf(x:Offence):Prop:=(fun s=>s.length<=1048576) x.Name/\(QE .i64) x.Time/\(QE .i64) x.Laps/\(fun _=>True) x.Out/\True
theorem QmN(n:Nat):RB prog n 237 Offence Offence.c Offence.wf:=(Yf (RB.struct underlying237 (by kernel_rfl) (RF.cons (k:=1) rfl (by kernel_rfl) (RB.string underlying9) (RF.cons (k:=1) rfl (by kernel_rfl) (RB.int underlying3) (RF.cons (k:=1) rfl (by kernel_rfl) (RB.int underlying3) (RF.cons (k:=1) rfl (by kernel_rfl) (RB.bool underlying4) RF.nil))))) (fun p=>⟨p.1,p.2.1,p.2.2.1,p.2.2.2.1⟩) (fun _=>rfl) (fun _ h=>h)).down
def Category.wf(x:Category):Prop:=(fun s=>s.length<=1048576) x.Name/\(QE .i64) x.From/\(QE .i64) x.To/\True
theorem QmM(n:Nat):RB prog n 239 Category Category.c Category.wf:=(Yf (RB.struct underlying239 (by kernel_rfl) (RF.cons (k:=1) rfl (by kernel_rfl) (RB.string underlying9) (RF.cons (k:=1) rfl (by kernel_rfl) (RB.int underlying3) (RF.cons (k:=1) rfl (by kernel_rfl) (RB.int underlying3) RF.nil)))) (fun p=>⟨p.1,p.2.1,p.2.2.1⟩) (fun _=>rfl) (fun _ h=>h)).down
def Prize.wf(x:Prize):Prop:=(QE .i64) x.Distance/\(QE .i64) x.Category/\(QE .i64) x.Rank/\(QE .i64) x.Amount/\True
theorem rd_74(n:Nat):RB prog n 74 Prize Prize.c Prize.wf:=(Yf (RB.struct underlying74 (by kernel_rfl) (RF.cons (k:=1) rfl (by kernel_rfl) (RB.int underlying3) (RF.cons (k:=1) rfl (by kernel_rfl) (RB.int underlying3) (RF.cons (k:=1) rfl (by kernel_rfl) (RB.int underlying3) (RF.cons (k:=1) rfl (by kernel_rfl) (RB.int underlying3) RF.nil))))) (fun p=>⟨p.1,p.2.1,p.2.2.1,p.2.2.2.1⟩) (fun _=>rfl) (fun _ h=>h)).down
mutual
def Cond.wf:Cond->Prop
  |⟨x0,x1,x2,x3⟩=>((QE .i64) x0)/\((QE .i64) x1)/\((QE .i64) x2)/\(x3.length<=1048576/\Cond.wfs x3)/\True
def Cond.wfs:List Cond->Prop
  |[]=>True
  |x::l=>Cond.wf x/\Cond.wfs l
end
theorem QcN(l:List Cond):Cond.wfs l↔ ∀x∈l,Cond.wf x:=by
  induction l with
  |nil=>simp[Cond.wfs]
  |cons x l ih=>simp[Cond.wfs,ih]
theorem QmS:∀n,RB prog n 142 Cond Cond.enc Cond.wf:=QdB (fun n ih=>Yf (RB.struct underlying142 (by kernel_rfl) (RF.cons (k:=1) rfl (by kernel_rfl) (RB.int underlying3) (RF.cons (k:=1) rfl (by kernel_rfl) (RB.int underlying3) (RF.cons (k:=1) rfl (by kernel_rfl) (RB.int underlying3) (RF.cons (k:=1) rfl (by kernel_rfl) (RB.slice (k:=4) underlying140 (by kernel_rfl) rfl (fun x=>by rw[Qar];rfl) ih).down RF.nil))))) (fun p=>⟨p.1,p.2.1,p.2.2.1,p.2.2.2.1⟩) (fun p=>by simp[Cond.enc,QcO,Qe,encB,encS,YE]) (fun p h=>by simpa[Cond.wf,QcN]using h))
mutual
def Step.wf:Step->Prop
  |⟨x0,x1,x2,x3,x4⟩=>((QE .i64) x0)/\((QE .i64) x1)/\(Cond.wf x2)/\(x3.length<=1048576/\Step.wfs x3)/\(x4.length<=1048576/\Step.wfs x4)/\True
def Step.wfs:List Step->Prop
  |[]=>True
  |x::l=>Step.wf x/\Step.wfs l
end
theorem QcA(l:List Step):Step.wfs l↔ ∀x∈l,Step.wf x:=by
  induction l with
  |nil=>simp[Step.wfs]
  |cons x l ih=>simp[Step.wfs,ih]
theorem QmR:∀n,RB prog n 144 Step Step.enc Step.wf:=QdB (fun n ih=>Yf (RB.struct underlying144 (by kernel_rfl) (RF.cons (k:=1) rfl (by kernel_rfl) (RB.int underlying3) (RF.cons (k:=1) rfl (by kernel_rfl) (RB.int underlying3) (RF.cons (k:=4) rfl (by kernel_rfl) (QmS n) (RF.cons (k:=1) rfl (by kernel_rfl) (RB.slice (k:=8) underlying45 (by kernel_rfl) rfl (fun x=>by rw[YI];rfl) ih).down (RF.cons (k:=1) rfl (by kernel_rfl) (RB.slice (k:=8) underlying45 (by kernel_rfl) rfl (fun x=>by rw[YI];rfl) ih).down RF.nil)))))) (fun p=>⟨p.1,p.2.1,p.2.2.1,p.2.2.2.1,p.2.2.2.2.1⟩) (fun p=>by simp[Step.enc,QcB,Qe,encB,encS,YE,Qar,Cond.c]) (fun p h=>by simpa[Step.wf,QcA]using h))
def Faults.wf(x:Faults):Prop:=(QE .i64) x.Misses/\(QE .i64) x.Strays/\(QE .i64) x.Window/\(QE .i64) x.Residual/\(QE .i64) x.Drift/\True
theorem rd_47(n:Nat):RB prog n 47 Faults Faults.c Faults.wf:=(Yf (RB.struct underlying47 (by kernel_rfl) (RF.cons (k:=1) rfl (by kernel_rfl) (RB.int underlying3) (RF.cons (k:=1) rfl (by kernel_rfl) (RB.int underlying3) (RF.cons (k:=1) rfl (by kernel_rfl) (RB.int underlying3) (RF.cons (k:=1) rfl (by kernel_rfl) (RB.int underlying3) (RF.cons (k:=1) rfl (by kernel_rfl) (RB.int underlying3) RF.nil)))))) (fun p=>⟨p.1,p.2.1,p.2.2.1,p.2.2.2.1,p.2.2.2.2.1⟩) (fun _=>rfl) (fun _ h=>h)).down
def Course.wf(x:Course):Prop:=(fun s=>s.length<=1048576) x.Name/\(fun l=>l.length<=1048576/\ ∀x∈l,Mat.wf x) x.Mats/\(fun l=>l.length<=1048576/\ ∀x∈l,Leg.wf x) x.Legs/\(fun l=>l.length<=1048576/\ ∀x∈l,Distance.wf x) x.Distances/\(fun l=>l.length<=1048576/\ ∀x∈l,Wave.wf x) x.Waves/\(fun l=>l.length<=1048576/\ ∀x∈l,Offence.wf x) x.Offences/\(fun l=>l.length<=1048576/\ ∀x∈l,Category.wf x) x.Categories/\(fun l=>l.length<=1048576/\ ∀x∈l,Prize.wf x) x.Prizes/\(fun l=>l.length<=1048576/\ ∀x∈l,Step.wf x) x.Ties/\Faults.wf x.Faults/\(QE .i64) x.Fee/\(QE .i64) x.Deadline/\True
theorem rd_49(n:Nat):RB prog n 49 Course Course.c Course.wf:=(Yf (RB.struct underlying49 (by kernel_rfl) (RF.cons (k:=1) rfl (by kernel_rfl) (RB.string underlying9) (RF.cons (k:=1) rfl (by kernel_rfl) (RB.slice (k:=2) underlying38 (by kernel_rfl) rfl (fun _=>rfl) (QmW n)).down (RF.cons (k:=1) rfl (by kernel_rfl) (RB.slice (k:=4) underlying39 (by kernel_rfl) rfl (fun _=>rfl) (QmV n)).down (RF.cons (k:=1) rfl (by kernel_rfl) (RB.slice (k:=5) underlying40 (by kernel_rfl) rfl (fun _=>rfl) (rd_99 n)).down (RF.cons (k:=1) rfl (by kernel_rfl) (RB.slice (k:=2) underlying41 (by kernel_rfl) rfl (fun _=>rfl) (QmT n)).down (RF.cons (k:=1) rfl (by kernel_rfl) (RB.slice (k:=4) underlying42 (by kernel_rfl) rfl (fun _=>rfl) (QmN n)).down (RF.cons (k:=1) rfl (by kernel_rfl) (RB.slice (k:=3) underlying43 (by kernel_rfl) rfl (fun _=>rfl) (QmM n)).down (RF.cons (k:=1) rfl (by kernel_rfl) (RB.slice (k:=4) underlying44 (by kernel_rfl) rfl (fun _=>rfl) (rd_74 n)).down (RF.cons (k:=1) rfl (by kernel_rfl) (RB.slice (k:=8) underlying45 (by kernel_rfl) rfl (fun x=>by rw[YI];rfl) (QmR n)).down (RF.cons (k:=5) rfl (by kernel_rfl) (rd_47 n) (RF.cons (k:=1) rfl (by kernel_rfl) (RB.int underlying3) (RF.cons (k:=1) rfl (by kernel_rfl) (RB.int underlying3) RF.nil))))))))))))) (fun p=>⟨p.1,p.2.1,p.2.2.1,p.2.2.2.1,p.2.2.2.2.1,p.2.2.2.2.2.1,p.2.2.2.2.2.2.1,p.2.2.2.2.2.2.2.1,p.2.2.2.2.2.2.2.2.1,p.2.2.2.2.2.2.2.2.2.1,p.2.2.2.2.2.2.2.2.2.2.1,p.2.2.2.2.2.2.2.2.2.2.2.1⟩) (fun _=>rfl) (fun _ h=>h)).down
def Segment.wf(x:Segment):Prop:=(QE .i64) x.Mat/\(QE .i64) x.Epoch/\(QE .i64) x.Anchor/\True
theorem QmO(n:Nat):RB prog n 198 Segment Segment.c Segment.wf:=(Yf (RB.struct underlying198 (by kernel_rfl) (RF.cons (k:=1) rfl (by kernel_rfl) (RB.int underlying3) (RF.cons (k:=1) rfl (by kernel_rfl) (RB.int underlying3) (RF.cons (k:=1) rfl (by kernel_rfl) (RB.int underlying3) RF.nil)))) (fun p=>⟨p.1,p.2.1,p.2.2.1⟩) (fun _=>rfl) (fun _ h=>h)).down
def Clocks.wf(x:Clocks):Prop:=(fun l=>l.length<=1048576/\ ∀x∈l,Segment.wf x) x.Segments/\(fun l=>l.length<=1048576/\ ∀x∈l,(fun l=>l.length<=1048576/\ ∀x∈l,(QE .i64) x) x) x.Far/\True
theorem rd_25(n:Nat):RB prog n 25 Clocks Clocks.c Clocks.wf:=(Yf (RB.struct underlying25 (by kernel_rfl) (RF.cons (k:=1) rfl (by kernel_rfl) (RB.slice (k:=3) underlying22 (by kernel_rfl) rfl (fun _=>rfl) (QmO n)).down (RF.cons (k:=1) rfl (by kernel_rfl) (RB.slice (k:=1) underlying23 (by kernel_rfl) rfl (fun _=>rfl) (RB.slice (k:=1) underlying32 (by kernel_rfl) rfl (fun _=>rfl) (RB.int underlying3)).down).down RF.nil))) (fun p=>⟨p.1,p.2.1⟩) (fun _=>rfl) (fun _ h=>h)).down
def Pair.wf(x:Pair):Prop:=(QE .i64) x.A/\(QE .i64) x.B/\True
theorem QmP(n:Nat):RB prog n 149 Pair Pair.c Pair.wf:=(Yf (RB.struct underlying149 (by kernel_rfl) (RF.cons (k:=1) rfl (by kernel_rfl) (RB.int underlying3) (RF.cons (k:=1) rfl (by kernel_rfl) (RB.int underlying3) RF.nil))) (fun p=>⟨p.1,p.2.1⟩) (fun _=>rfl) (fun _ h=>h)).down
def Outcome.wf(x:Outcome):Prop:=(fun _=>True) x.Out/\(QE .i64) x.Seg/\(QE .i64) x.Lo/\(QE .i64) x.Hi/\True
theorem QmQ(n:Nat):RB prog n 146 Outcome Outcome.c Outcome.wf:=(Yf (RB.struct underlying146 (by kernel_rfl) (RF.cons (k:=1) rfl (by kernel_rfl) (RB.bool underlying4) (RF.cons (k:=1) rfl (by kernel_rfl) (RB.int underlying3) (RF.cons (k:=1) rfl (by kernel_rfl) (RB.int underlying3) (RF.cons (k:=1) rfl (by kernel_rfl) (RB.int underlying3) RF.nil))))) (fun p=>⟨p.1,p.2.1,p.2.2.1,p.2.2.2.1⟩) (fun _=>rfl) (fun _ h=>h)).down
def Runner.wf(x:Runner):Prop:=(QE .i64) x.Bib/\(fun l=>l.length<=1048576/\ ∀x∈l,(QE .i64) x) x.Keys/\(fun l=>l.length<=1048576/\ ∀x∈l,(fun l=>l.length<=1048576/\ ∀x∈l,Outcome.wf x) x) x.Worlds/\True
theorem rd_68(n:Nat):RB prog n 68 Runner Runner.c Runner.wf:=(Yf (RB.struct underlying68 (by kernel_rfl) (RF.cons (k:=1) rfl (by kernel_rfl) (RB.int underlying3) (RF.cons (k:=1) rfl (by kernel_rfl) (RB.slice (k:=1) underlying32 (by kernel_rfl) rfl (fun _=>rfl) (RB.int underlying3)).down (RF.cons (k:=1) rfl (by kernel_rfl) (RB.slice (k:=1) underlying66 (by kernel_rfl) rfl (fun _=>rfl) (RB.slice (k:=4) underlying88 (by kernel_rfl) rfl (fun _=>rfl) (QmQ n)).down).down RF.nil)))) (fun p=>⟨p.1,p.2.1,p.2.2.1⟩) (fun _=>rfl) (fun _ h=>h)).down
def Field.wf(x:Field):Prop:=Clocks.wf x.Clocks/\(fun l=>l.length<=1048576/\ ∀x∈l,Pair.wf x) x.Pairs/\(fun l=>l.length<=1048576/\ ∀x∈l,Runner.wf x) x.Runners/\True
theorem rd_29(n:Nat):RB prog n 29 Field Field.c Field.wf:=(Yf (RB.struct underlying29 (by kernel_rfl) (RF.cons (k:=2) rfl (by kernel_rfl) (rd_25 n) (RF.cons (k:=1) rfl (by kernel_rfl) (RB.slice (k:=2) underlying26 (by kernel_rfl) rfl (fun _=>rfl) (QmP n)).down (RF.cons (k:=1) rfl (by kernel_rfl) (RB.slice (k:=3) underlying27 (by kernel_rfl) rfl (fun _=>rfl) (rd_68 n)).down RF.nil)))) (fun p=>⟨p.1,p.2.1,p.2.2.1⟩) (fun _=>rfl) (fun _ h=>h)).down
end Go.Sw
