/- How the arguments of MatchCrossingSpec are read. -/
import Derived.Test.YthdhdobclejckaaGreatW19CrA
set_option linter.unusedVariables false
set_option linter.unusedSimpArgs false
set_option maxRecDepth 100000
set_option maxHeartbeats 4000000
namespace Go.Sw
open Go.Proofs Tryz
def Mat.wf(x:Mat):Prop:=(λs=>s.length<=1048576) x.Name/\(Qz .i64) x.Kind/\True
theorem Qni(n:Nat):RB prog n 108 Mat Mat.c Mat.wf:=(Yi (RB.struct underlying108 (by kernel_rfl) (En (RB.string EZ) (En Q6 RF.nil))) (λp=>⟨p.1,p.2.1⟩) Zf (λ_ h=>h)).down
def Leg.wf(x:Leg):Prop:=(Qz .i64) x.From/\(Qz .i64) x.To/\(Qz .i64) x.Min/\(Qz .i64) x.Max/\True
theorem Qnh(n:Nat):RB prog n 110 Leg Leg.c Leg.wf:=(Yi (RB.struct underlying110 (by kernel_rfl) (En Q6 (En Q6 (En Q6 (En Q6 RF.nil))))) (λp=>⟨p.1,p.2.1,p.2.2.1,p.2.2.2.1⟩) Zf (λ_ h=>h)).down
mutual
def Part.wf:Part->Prop
  |⟨x0,x1,x2⟩=>((Qz .i64) x0)/\((Qz .i64) x1)/\(x2.length<=1048576/\Part.wfs x2)/\True
def Part.wfs:List Part->Prop
  |[]=>True
  |x::l=>Part.wf x/\Part.wfs l
end
theorem QcZ(l:List Part):Part.wfs l↔ ∀x∈l,Part.wf x:=by
  induction l with
  |nil=>simp[Part.wfs]
  |cons x l ih=>simp[Part.wfs,ih]
theorem Qng:∀n,RB prog n 113 Part Part.enc Part.wf:=Qd2 (λn ih=>Yi (RB.struct underlying113 (by kernel_rfl) (En Q6 (En Q6 (En (RB.slice (k:=3) underlying111 (by kernel_rfl) rfl (λx=>by rw[QF];rfl) ih).down RF.nil)))) (λp=>⟨p.1,p.2.1,p.2.2.1⟩) (λp=>by simp[Part.enc,Qc0,Qe,Y4,Jl,QN]) (λp h=>by simpa[Part.wf,QcZ]using h))
def Cutoff.wf(x:Cutoff):Prop:=(Qz .i64) x.Mat/\(Qz .i64) x.Lap/\(Qz .i64) x.Limit/\True
theorem Qna(n:Nat):RB prog n 230 Cutoff Cutoff.c Cutoff.wf:=(Yi (RB.struct underlying230 (by kernel_rfl) (En Q6 (En Q6 (En Q6 RF.nil)))) (λp=>⟨p.1,p.2.1,p.2.2.1⟩) Zf (λ_ h=>h)).down
def Distance.wf(x:Distance):Prop:=(λs=>s.length<=1048576) x.Name/\(λl=>l.length<=1048576/\ ∀x∈l,Part.wf x) x.Route/\(Qz .i64) x.Timing/\(λl=>l.length<=1048576/\ ∀x∈l,Cutoff.wf x) x.Cutoffs/\(Qz .i64) x.Extra/\True
theorem Qnf(n:Nat):RB prog n 116 Distance Distance.c Distance.wf:=(Yi (RB.struct underlying116 (by kernel_rfl) (En (RB.string EZ) (En (RB.slice (k:=3) underlying111 (by kernel_rfl) rfl (λx=>by rw[QF];rfl) (Qng n)).down (En Q6 (En (RB.slice (k:=3) underlying114 (by kernel_rfl) rfl Zf (Qna n)).down (En Q6 RF.nil)))))) (λp=>⟨p.1,p.2.1,p.2.2.1,p.2.2.2.1,p.2.2.2.2.1⟩) Zf (λ_ h=>h)).down
def Wave.wf(x:Wave):Prop:=(λs=>s.length<=1048576) x.Name/\(Qz .i64) x.Gun/\True
theorem Qnj(n:Nat):RB prog n 106 Wave Wave.c Wave.wf:=(Yi (RB.struct underlying106 (by kernel_rfl) (En (RB.string EZ) (En Q6 RF.nil))) (λp=>⟨p.1,p.2.1⟩) Zf (λ_ h=>h)).down
def Offence.wf(x:Offence):Prop:=(λs=>s.length<=1048576) x.Name/\(Qz .i64) x.Time/\(Qz .i64) x.Laps/\(λ_=>True) x.Out/\True
theorem Qnd(n:Nat):RB prog n 220 Offence Offence.c Offence.wf:=(Yi (RB.struct underlying220 (by kernel_rfl) (En (RB.string EZ) (En Q6 (En Q6 (En (RB.bool underlying4) RF.nil))))) (λp=>⟨p.1,p.2.1,p.2.2.1,p.2.2.2.1⟩) Zf (λ_ h=>h)).down
def Category.wf(x:Category):Prop:=(λs=>s.length<=1048576) x.Name/\(Qz .i64) x.From/\(Qz .i64) x.To/\True
theorem Qnc(n:Nat):RB prog n 222 Category Category.c Category.wf:=(Yi (RB.struct underlying222 (by kernel_rfl) (En (RB.string EZ) (En Q6 (En Q6 RF.nil)))) (λp=>⟨p.1,p.2.1,p.2.2.1⟩) Zf (λ_ h=>h)).down
def Prize.wf(x:Prize):Prop:=(Qz .i64) x.Distance/\(Qz .i64) x.Category/\(Qz .i64) x.Rank/\(Qz .i64) x.Amount/\True
theorem Qnb(n:Nat):RB prog n 227 Prize Prize.c Prize.wf:=(Yi (RB.struct underlying227 (by kernel_rfl) (En Q6 (En Q6 (En Q6 (En Q6 RF.nil))))) (λp=>⟨p.1,p.2.1,p.2.2.1,p.2.2.2.1⟩) Zf (λ_ h=>h)).down
mutual
def Cond.wf:Cond->Prop
  |⟨x0,x1,x2,x3⟩=>((Qz .i64) x0)/\((Qz .i64) x1)/\((Qz .i64) x2)/\(x3.length<=1048576/\Cond.wfs x3)/\True
def Cond.wfs:List Cond->Prop
  |[]=>True
  |x::l=>Cond.wf x/\Cond.wfs l
end
theorem Qc5(l:List Cond):Cond.wfs l↔ ∀x∈l,Cond.wf x:=by
  induction l with
  |nil=>simp[Cond.wfs]
  |cons x l ih=>simp[Cond.wfs,ih]
theorem Qnl:∀n,RB prog n 102 Cond Cond.enc Cond.wf:=Qd2 (λn ih=>Yi (RB.struct underlying102 (by kernel_rfl) (En Q6 (En Q6 (En Q6 (En (RB.slice (k:=4) underlying100 (by kernel_rfl) rfl (λx=>by rw[Qar];rfl) ih).down RF.nil))))) (λp=>⟨p.1,p.2.1,p.2.2.1,p.2.2.2.1⟩) (λp=>by simp[Cond.enc,Qc6,Qe,Y4,Jl,QN]) (λp h=>by simpa[Cond.wf,Qc5]using h))
mutual
def Step.wf:Step->Prop
  |⟨x0,x1,x2,x3,x4⟩=>((Qz .i64) x0)/\((Qz .i64) x1)/\(Cond.wf x2)/\(x3.length<=1048576/\Step.wfs x3)/\(x4.length<=1048576/\Step.wfs x4)/\True
def Step.wfs:List Step->Prop
  |[]=>True
  |x::l=>Step.wf x/\Step.wfs l
end
theorem QcV(l:List Step):Step.wfs l↔ ∀x∈l,Step.wf x:=by
  induction l with
  |nil=>simp[Step.wfs]
  |cons x l ih=>simp[Step.wfs,ih]
theorem Qnk:∀n,RB prog n 104 Step Step.enc Step.wf:=Qd2 (λn ih=>Yi (RB.struct underlying104 (by kernel_rfl) (En Q6 (En Q6 (Em (k:=4) rfl (by kernel_rfl) (Qnl n) (En (RB.slice (k:=8) Gr (by kernel_rfl) rfl (λx=>by rw[Yx];rfl) ih).down (En (RB.slice (k:=8) Gr (by kernel_rfl) rfl (λx=>by rw[Yx];rfl) ih).down RF.nil)))))) (λp=>⟨p.1,p.2.1,p.2.2.1,p.2.2.2.1,p.2.2.2.2.1⟩) (λp=>by simp[Step.enc,QcW,Qe,Y4,Jl,QN,Qar,Cond.c]) (λp h=>by simpa[Step.wf,QcV]using h))
def Faults.wf(x:Faults):Prop:=(Qz .i64) x.Misses/\(Qz .i64) x.Strays/\(Qz .i64) x.Window/\(Qz .i64) x.Residual/\(Qz .i64) x.Drift/\True
theorem rd_31(n:Nat):RB prog n 31 Faults Faults.c Faults.wf:=(Yi (RB.struct underlying31 (by kernel_rfl) (En Q6 (En Q6 (En Q6 (En Q6 (En Q6 RF.nil)))))) (λp=>⟨p.1,p.2.1,p.2.2.1,p.2.2.2.1,p.2.2.2.2.1⟩) Zf (λ_ h=>h)).down
def Course.wf(x:Course):Prop:=(λs=>s.length<=1048576) x.Name/\(λl=>l.length<=1048576/\ ∀x∈l,Mat.wf x) x.Mats/\(λl=>l.length<=1048576/\ ∀x∈l,Leg.wf x) x.Legs/\(λl=>l.length<=1048576/\ ∀x∈l,Distance.wf x) x.Distances/\(λl=>l.length<=1048576/\ ∀x∈l,Wave.wf x) x.Waves/\(λl=>l.length<=1048576/\ ∀x∈l,Offence.wf x) x.Offences/\(λl=>l.length<=1048576/\ ∀x∈l,Category.wf x) x.Categories/\(λl=>l.length<=1048576/\ ∀x∈l,Prize.wf x) x.Prizes/\(λl=>l.length<=1048576/\ ∀x∈l,Step.wf x) x.Ties/\Faults.wf x.Faults/\(Qz .i64) x.Fee/\(Qz .i64) x.Deadline/\True
theorem rd_33(n:Nat):RB prog n 33 Course Course.c Course.wf:=(Yi (RB.struct underlying33 (by kernel_rfl) (En (RB.string EZ) (En (RB.slice (k:=2) underlying22 (by kernel_rfl) rfl Zf (Qni n)).down (En (RB.slice (k:=4) underlying23 (by kernel_rfl) rfl Zf (Qnh n)).down (En (RB.slice (k:=5) underlying24 (by kernel_rfl) rfl Zf (Qnf n)).down (En (RB.slice (k:=2) underlying25 (by kernel_rfl) rfl Zf (Qnj n)).down (En (RB.slice (k:=4) underlying26 (by kernel_rfl) rfl Zf (Qnd n)).down (En (RB.slice (k:=3) underlying27 (by kernel_rfl) rfl Zf (Qnc n)).down (En (RB.slice (k:=4) underlying28 (by kernel_rfl) rfl Zf (Qnb n)).down (En (RB.slice (k:=8) Gr (by kernel_rfl) rfl (λx=>by rw[Yx];rfl) (Qnk n)).down (Em (k:=5) rfl (by kernel_rfl) (rd_31 n) (En Q6 (En Q6 RF.nil))))))))))))) (λp=>⟨p.1,p.2.1,p.2.2.1,p.2.2.2.1,p.2.2.2.2.1,p.2.2.2.2.2.1,p.2.2.2.2.2.2.1,p.2.2.2.2.2.2.2.1,p.2.2.2.2.2.2.2.2.1,p.2.2.2.2.2.2.2.2.2.1,p.2.2.2.2.2.2.2.2.2.2.1,p.2.2.2.2.2.2.2.2.2.2.2.1⟩) Zf (λ_ h=>h)).down
def Segment.wf(x:Segment):Prop:=(Qz .i64) x.Mat/\(Qz .i64) x.Epoch/\(Qz .i64) x.Anchor/\True
theorem Qne(n:Nat):RB prog n 155 Segment Segment.c Segment.wf:=(Yi (RB.struct underlying155 (by kernel_rfl) (En Q6 (En Q6 (En Q6 RF.nil)))) (λp=>⟨p.1,p.2.1,p.2.2.1⟩) Zf (λ_ h=>h)).down
def Clocks.wf(x:Clocks):Prop:=(λl=>l.length<=1048576/\ ∀x∈l,Segment.wf x) x.Segments/\(λl=>l.length<=1048576/\ ∀x∈l,(λl=>l.length<=1048576/\ ∀x∈l,(Qz .i64) x) x) x.Far/\True
theorem rd_37(n:Nat):RB prog n 37 Clocks Clocks.c Clocks.wf:=(Yi (RB.struct underlying37 (by kernel_rfl) (En (RB.slice (k:=3) underlying34 (by kernel_rfl) rfl Zf (Qne n)).down (En (RB.slice (k:=1) underlying35 (by kernel_rfl) rfl Zf (RB.slice (k:=1) Gs (by kernel_rfl) rfl Zf Q6).down).down RF.nil))) (λp=>⟨p.1,p.2.1⟩) Zf (λ_ h=>h)).down
def Starter.wf(x:Starter):Prop:=(Qz .i64) x.Bib/\(Qz .i64) x.Distance/\(Qz .i64) x.Wave/\(Qz .i64) x.Slot/\(Qz .i64) x.Age/\(Qz .i64) x.Chip/\(Qz .i64) x.Team/\(Qz .i64) x.Lot/\True
theorem rd_39(n:Nat):RB prog n 39 Starter Starter.c Starter.wf:=(Yi (RB.struct underlying39 (by kernel_rfl) (En Q6 (En Q6 (En Q6 (En Q6 (En Q6 (En Q6 (En Q6 (En Q6 RF.nil))))))))) (λp=>⟨p.1,p.2.1,p.2.2.1,p.2.2.2.1,p.2.2.2.2.1,p.2.2.2.2.2.1,p.2.2.2.2.2.2.1,p.2.2.2.2.2.2.2.1⟩) Zf (λ_ h=>h)).down
def Hit.wf(x:Hit):Prop:=(Qz .i64) x.Mat/\(Qz .i64) x.Epoch/\(Qz .i64) x.Chip/\(Qz .i64) x.First/\(Qz .i64) x.Last/\True
theorem rd_65(n:Nat):RB prog n 65 Hit Hit.c Hit.wf:=(Yi (RB.struct underlying65 (by kernel_rfl) (En Q6 (En Q6 (En Q6 (En Q6 (En Q6 RF.nil)))))) (λp=>⟨p.1,p.2.1,p.2.2.1,p.2.2.2.1,p.2.2.2.2.1⟩) Zf (λ_ h=>h)).down
def Hand.wf(x:Hand):Prop:=(Qz .i64) x.Bib/\(Qz .i64) x.Position/\(Qz .i64) x.Lo/\(Qz .i64) x.Hi/\True
theorem rd_63(n:Nat):RB prog n 63 Hand Hand.c Hand.wf:=(Yi (RB.struct underlying63 (by kernel_rfl) (En Q6 (En Q6 (En Q6 (En Q6 RF.nil))))) (λp=>⟨p.1,p.2.1,p.2.2.1,p.2.2.2.1⟩) Zf (λ_ h=>h)).down
def stopwatchlaw19_Input.wf(x:stopwatchlaw19_Input):Prop:=Course.wf x.C/\Clocks.wf x.K/\Starter.wf x.S/\(Qz .i64) x.Extra/\(λl=>l.length<=1048576/\ ∀x∈l,Hit.wf x) x.Hits/\(λl=>l.length<=1048576/\ ∀x∈l,Hand.wf x) x.Hands/\True
theorem rd_43(n:Nat):RB prog n 43 stopwatchlaw19_Input stopwatchlaw19_Input.c stopwatchlaw19_Input.wf:=(Yi (RB.struct underlying43 (by kernel_rfl) (Em (k:=16) rfl (by kernel_rfl) (rd_33 n) (Em (k:=2) rfl (by kernel_rfl) (rd_37 n) (Em (k:=8) rfl (by kernel_rfl) (rd_39 n) (En Q6 (En (RB.slice (k:=5) underlying40 (by kernel_rfl) rfl Zf (rd_65 n)).down (En (RB.slice (k:=4) underlying41 (by kernel_rfl) rfl Zf (rd_63 n)).down RF.nil))))))) (λp=>⟨p.1,p.2.1,p.2.2.1,p.2.2.2.1,p.2.2.2.2.1,p.2.2.2.2.2.1⟩) Zf (λ_ h=>h)).down
def Way.wf(x:Way):Prop:=(λl=>l.length<=1048576/\ ∀x∈l,(Qz .i64) x) x.Hits/\(Qz .i64) x.Last/\True
theorem rd_46(n:Nat):RB prog n 46 Way Way.c Way.wf:=(Yi (RB.struct underlying46 (by kernel_rfl) (En (RB.slice (k:=1) Gs (by kernel_rfl) rfl Zf Q6).down (En Q6 RF.nil))) (λp=>⟨p.1,p.2.1⟩) Zf (λ_ h=>h)).down
end Go.Sw
