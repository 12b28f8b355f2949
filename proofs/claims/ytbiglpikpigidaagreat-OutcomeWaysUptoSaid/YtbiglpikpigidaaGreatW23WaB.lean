/- How the arguments of OutcomeWays are read. -/
import Derived.Test.YtbiglpikpigidaaGreatW23WaA
set_option linter.unusedVariables false
set_option linter.unusedSimpArgs false
set_option maxRecDepth 100000
set_option maxHeartbeats 4000000
namespace Go.Sw
open List renaming length→AI
variable (n:Nat)
open Go.Proofs Tryz
def Al.wf(x:Al):Prop:=(λs=>AI s<=1048576) x.Ao/\(Qq .i64) x.AX/\True
theorem _b:RB prog n 214 Al Al.c Al.wf:=(Yd (RB.struct underlying214 (by kernel_rfl) (Em (RB.string Gp) (Em QL RF.nil))) (λp=>⟨p.1,p.2.1⟩) Zf (λ_ h=>h)).down
def Cp.wf(x:Cp):Prop:=(Qq .i64) x.BA/\(Qq .i64) x.To/\(Qq .i64) x.Bl/\(Qq .i64) x.Bq/\True
theorem _c:RB prog n 221 Cp Cp.c Cp.wf:=(Yd (RB.struct underlying221 (by kernel_rfl) (Em QL (Em QL (Em QL (Em QL RF.nil))))) (λp=>⟨p.1,p.2.1,p.2.2.1,p.2.2.2.1⟩) Zf (λ_ h=>h)).down
mutual
def CG.wf:CG->Prop
  |⟨x0,x1,x2⟩=>((Qq .i64) x0)/\((Qq .i64) x1)/\(AI x2<=1048576/\CG.wfs x2)/\True
def CG.wfs:AA CG->Prop
  |[]=>True
  |x::l=>CG.wf x/\CG.wfs l
end
theorem ut(l:AA CG):CG.wfs l↔ ∀x∈l,CG.wf x:=by
  induction l with
  |nil=>simp[CG.wfs]
  |cons x l ih=>simp[CG.wfs,ih]
theorem r?:∀n,RB prog n 252 CG CG.enc CG.wf:=gz (λn ih=>Yd (RB.struct underlying252 (by kernel_rfl) (Em QL (Em QL (Em (RB.slice (k:=3) underlying63 (by kernel_rfl) rfl (λx=>by rw[QM];rfl) ih).down RF.nil)))) (λp=>⟨p.1,p.2.1,p.2.2.1⟩) (λp=>by simp[CG.enc,ur,Ys,JL,JK,Qu]) (λp h=>by simpa[CG.wf,ut]using h))
def CO.wf(x:CO):Prop:=(Qq .i64) x.Al/\(Qq .i64) x.B8/\(Qq .i64) x.Bt/\True
theorem _g:RB prog n 245 CO CO.c CO.wf:=(Yd (RB.struct underlying245 (by kernel_rfl) (Em QL (Em QL (Em QL RF.nil)))) (λp=>⟨p.1,p.2.1,p.2.2.1⟩) Zf (λ_ h=>h)).down
def AN.wf(x:AN):Prop:=(λs=>AI s<=1048576) x.Ao/\(λl=>AI l<=1048576/\ ∀x∈l,CG.wf x) x.Ae/\(Qq .i64) x.BI/\(λl=>AI l<=1048576/\ ∀x∈l,CO.wf x) x.Aq/\(Qq .i64) x.Am/\True
theorem aN:RB prog n 66 AN AN.c AN.wf:=(Yd (RB.struct underlying66 (by kernel_rfl) (Em (RB.string Gp) (Em (RB.slice (k:=3) underlying63 (by kernel_rfl) rfl (λx=>by rw[QM];rfl) (r? n)).down (Em QL (Em (RB.slice (k:=3) underlying64 (by kernel_rfl) rfl Zf (_g n)).down (Em QL RF.nil)))))) (λp=>⟨p.1,p.2.1,p.2.2.1,p.2.2.2.1,p.2.2.2.2.1⟩) Zf (λ_ h=>h)).down
def A2.wf(x:A2):Prop:=(λs=>AI s<=1048576) x.Ao/\(Qq .i64) x.B9/\True
theorem aM:RB prog n 68 A2 A2.c A2.wf:=(Yd (RB.struct underlying68 (by kernel_rfl) (Em (RB.string Gp) (Em QL RF.nil))) (λp=>⟨p.1,p.2.1⟩) Zf (λ_ h=>h)).down
def AZ.wf(x:AZ):Prop:=(λs=>AI s<=1048576) x.Ao/\(Qq .i64) x.BW/\(Qq .i64) x.As/\(λ_=>True) x.A'/\True
theorem _d:RB prog n 232 AZ AZ.c AZ.wf:=(Yd (RB.struct underlying232 (by kernel_rfl) (Em (RB.string Gp) (Em QL (Em QL (Em (RB.bool underlying4) RF.nil))))) (λp=>⟨p.1,p.2.1,p.2.2.1,p.2.2.2.1⟩) Zf (λ_ h=>h)).down
def AW.wf(x:AW):Prop:=(λs=>AI s<=1048576) x.Ao/\(Qq .i64) x.BA/\(Qq .i64) x.To/\True
theorem _e:RB prog n 234 AW AW.c AW.wf:=(Yd (RB.struct underlying234 (by kernel_rfl) (Em (RB.string Gp) (Em QL (Em QL RF.nil)))) (λp=>⟨p.1,p.2.1,p.2.2.1⟩) Zf (λ_ h=>h)).down
def CQ.wf(x:CQ):Prop:=(Qq .i64) x.AN/\(Qq .i64) x.AW/\(Qq .i64) x.B0/\(Qq .i64) x.BO/\True
theorem _f:RB prog n 239 CQ CQ.c CQ.wf:=(Yd (RB.struct underlying239 (by kernel_rfl) (Em QL (Em QL (Em QL (Em QL RF.nil))))) (λp=>⟨p.1,p.2.1,p.2.2.1,p.2.2.2.1⟩) Zf (λ_ h=>h)).down
mutual
def AS.wf:AS->Prop
  |⟨x0,x1,x2,x3⟩=>((Qq .i64) x0)/\((Qq .i64) x1)/\((Qq .i64) x2)/\(AI x3<=1048576/\AS.wfs x3)/\True
def AS.wfs:AA AS->Prop
  |[]=>True
  |x::l=>AS.wf x/\AS.wfs l
end
theorem u6(l:AA AS):AS.wfs l↔ ∀x∈l,AS.wf x:=by
  induction l with
  |nil=>simp[AS.wfs]
  |cons x l ih=>simp[AS.wfs,ih]
theorem s?:∀n,RB prog n 255 AS AS.enc AS.wf:=gz (λn ih=>Yd (RB.struct underlying255 (by kernel_rfl) (Em QL (Em QL (Em QL (Em (RB.slice (k:=4) underlying253 (by kernel_rfl) rfl (λx=>by rw[Ji];rfl) ih).down RF.nil))))) (λp=>⟨p.1,p.2.1,p.2.2.1,p.2.2.2.1⟩) (λp=>by simp[AS.enc,uz,Ys,JL,JK,Qu]) (λp h=>by simpa[AS.wf,u6]using h))
mutual
def AY.wf:AY->Prop
  |⟨x0,x1,x2,x3,x4⟩=>((Qq .i64) x0)/\((Qq .i64) x1)/\(AS.wf x2)/\(AI x3<=1048576/\AY.wfs x3)/\(AI x4<=1048576/\AY.wfs x4)/\True
def AY.wfs:AA AY->Prop
  |[]=>True
  |x::l=>AY.wf x/\AY.wfs l
end
theorem uw(l:AA AY):AY.wfs l↔ ∀x∈l,AY.wf x:=by
  induction l with
  |nil=>simp[AY.wfs]
  |cons x l ih=>simp[AY.wfs,ih]
theorem t?:∀n,RB prog n 257 AY AY.enc AY.wf:=gz (λn ih=>Yd (RB.struct underlying257 (by kernel_rfl) (Em QL (Em QL (El (k:=4) rfl (by kernel_rfl) (s? n) (Em (RB.slice (k:=8) G4 (by kernel_rfl) rfl (λx=>by rw[Yt];rfl) ih).down (Em (RB.slice (k:=8) G4 (by kernel_rfl) rfl (λx=>by rw[Yt];rfl) ih).down RF.nil)))))) (λp=>⟨p.1,p.2.1,p.2.2.1,p.2.2.2.1,p.2.2.2.2.1⟩) (λp=>by simp[AY.enc,uv,Ys,JL,JK,Qu,Ji,AS.c]) (λp h=>by simpa[AY.wf,uw]using h))
def AQ.wf(x:AQ):Prop:=(Qq .i64) x.A8/\(Qq .i64) x.A6/\(Qq .i64) x.A5/\(Qq .i64) x.Ak/\(Qq .i64) x.BC/\True
theorem aQ:RB prog n 31 AQ AQ.c AQ.wf:=(Yd (RB.struct underlying31 (by kernel_rfl) (Em QL (Em QL (Em QL (Em QL (Em QL RF.nil)))))) (λp=>⟨p.1,p.2.1,p.2.2.1,p.2.2.2.1,p.2.2.2.2.1⟩) Zf (λ_ h=>h)).down
def CA.wf(x:CA):Prop:=(λs=>AI s<=1048576) x.Ao/\(λl=>AI l<=1048576/\ ∀x∈l,Al.wf x) x.Ar/\(λl=>AI l<=1048576/\ ∀x∈l,Cp.wf x) x.Az/\(λl=>AI l<=1048576/\ ∀x∈l,AN.wf x) x.AP/\(λl=>AI l<=1048576/\ ∀x∈l,A2.wf x) x.A0/\(λl=>AI l<=1048576/\ ∀x∈l,AZ.wf x) x.Ab/\(λl=>AI l<=1048576/\ ∀x∈l,AW.wf x) x.AV/\(λl=>AI l<=1048576/\ ∀x∈l,CQ.wf x) x.Ay/\(λl=>AI l<=1048576/\ ∀x∈l,AY.wf x) x.BN/\AQ.wf x.AQ/\(Qq .i64) x.Bj/\(Qq .i64) x.Av/\True
theorem aP:RB prog n 33 CA CA.c CA.wf:=(Yd (RB.struct underlying33 (by kernel_rfl) (Em (RB.string Gp) (Em (RB.slice (k:=2) underlying22 (by kernel_rfl) rfl Zf (_b n)).down (Em (RB.slice (k:=4) underlying23 (by kernel_rfl) rfl Zf (_c n)).down (Em (RB.slice (k:=5) underlying24 (by kernel_rfl) rfl Zf (aN n)).down (Em (RB.slice (k:=2) underlying25 (by kernel_rfl) rfl Zf (aM n)).down (Em (RB.slice (k:=4) underlying26 (by kernel_rfl) rfl Zf (_d n)).down (Em (RB.slice (k:=3) underlying27 (by kernel_rfl) rfl Zf (_e n)).down (Em (RB.slice (k:=4) underlying28 (by kernel_rfl) rfl Zf (_f n)).down (Em (RB.slice (k:=8) G4 (by kernel_rfl) rfl (λx=>by rw[Yt];rfl) (t? n)).down (El (k:=5) rfl (by kernel_rfl) (aQ n) (Em QL (Em QL RF.nil))))))))))))) (λp=>⟨p.1,p.2.1,p.2.2.1,p.2.2.2.1,p.2.2.2.2.1,p.2.2.2.2.2.1,p.2.2.2.2.2.2.1,p.2.2.2.2.2.2.2.1,p.2.2.2.2.2.2.2.2.1,p.2.2.2.2.2.2.2.2.2.1,p.2.2.2.2.2.2.2.2.2.2.1,p.2.2.2.2.2.2.2.2.2.2.2.1⟩) Zf (λ_ h=>h)).down
def AO.wf(x:AO):Prop:=(Qq .i64) x.BT/\(Qq .i64) x.AN/\(Qq .i64) x.A2/\(Qq .i64) x.BM/\(Qq .i64) x.B5/\(Qq .i64) x.BB/\(Qq .i64) x.Bk/\(Qq .i64) x.B4/\True
theorem aO:RB prog n 41 AO AO.c AO.wf:=(Yd (RB.struct underlying41 (by kernel_rfl) (Em QL (Em QL (Em QL (Em QL (Em QL (Em QL (Em QL (Em QL RF.nil))))))))) (λp=>⟨p.1,p.2.1,p.2.2.1,p.2.2.2.1,p.2.2.2.2.1,p.2.2.2.2.2.1,p.2.2.2.2.2.2.1,p.2.2.2.2.2.2.2.1⟩) Zf (λ_ h=>h)).down
def A4.wf(x:A4):Prop:=(Qq .i64) x.Al/\(Qq .i64) x.Ag/\(Qq .i64) x.BB/\(Qq .i64) x.BD/\True
theorem aL:RB prog n 98 A4 A4.c A4.wf:=(Yd (RB.struct underlying98 (by kernel_rfl) (Em QL (Em QL (Em QL (Em QL RF.nil))))) (λp=>⟨p.1,p.2.1,p.2.2.1,p.2.2.2.1⟩) Zf (λ_ h=>h)).down
def Aa.wf(x:Aa):Prop:=(Qq .i64) x.Al/\(Qq .i64) x.Ag/\(Qq .i64) x.BD/\(Qq .i64) x.True/\(Qq .i64) x.B6/\_root_.True
theorem _Q:RB prog n 100 Aa Aa.c Aa.wf:=(Yd (RB.struct underlying100 (by kernel_rfl) (Em QL (Em QL (Em QL (Em QL (Em QL RF.nil)))))) (λp=>⟨p.1,p.2.1,p.2.2.1,p.2.2.2.1,p.2.2.2.2.1⟩) Zf (λ_ h=>h)).down
def An.wf(x:An):Prop:=(Qq .i64) x.Bs/\(Qq .i64) x.Be/\(Qq .i64) x.Ba/\(Qq .i64) x.Br/\(Qq .i64) x.Bc/\(Qq .i64) x.BZ/\(Qq .i64) x.Bl/\(Qq .i64) x.Bq/\True
theorem _R:RB prog n 102 An An.c An.wf:=(Yd (RB.struct underlying102 (by kernel_rfl) (Em QL (Em QL (Em QL (Em QL (Em QL (Em QL (Em QL (Em QL RF.nil))))))))) (λp=>⟨p.1,p.2.1,p.2.2.1,p.2.2.2.1,p.2.2.2.2.1,p.2.2.2.2.2.1,p.2.2.2.2.2.2.1,p.2.2.2.2.2.2.2.1⟩) Zf (λ_ h=>h)).down
def Ac.wf(x:Ac):Prop:=(Qq .i64) x.BT/\(Qq .i64) x.AT/\(Qq .i64) x.Lo/\(Qq .i64) x.Hi/\True
theorem _S:RB prog n 104 Ac Ac.c Ac.wf:=(Yd (RB.struct underlying104 (by kernel_rfl) (Em QL (Em QL (Em QL (Em QL RF.nil))))) (λp=>⟨p.1,p.2.1,p.2.2.1,p.2.2.2.1⟩) Zf (λ_ h=>h)).down
def Ap.wf(x:Ap):Prop:=(Qq .i64) x.Al/\(Qq .i64) x.Ag/\(Qq .i64) x.Lo/\(Qq .i64) x.Hi/\True
theorem _T:RB prog n 106 Ap Ap.c Ap.wf:=(Yd (RB.struct underlying106 (by kernel_rfl) (Em QL (Em QL (Em QL (Em QL RF.nil))))) (λp=>⟨p.1,p.2.1,p.2.2.1,p.2.2.2.1⟩) Zf (λ_ h=>h)).down
def Bb.wf(x:Bb):Prop:=(Qq .i64) x.A/\(Qq .i64) x.B/\True
theorem _U:RB prog n 108 Bb Bb.c Bb.wf:=(Yd (RB.struct underlying108 (by kernel_rfl) (Em QL (Em QL RF.nil))) (λp=>⟨p.1,p.2.1⟩) Zf (λ_ h=>h)).down
def Aj.wf(x:Aj):Prop:=(Qq .i64) x.BK/\(Qq .i64) x.BT/\(Qq .i64) x.AZ/\(Qq .i64) x.AT/\True
theorem _V:RB prog n 110 Aj Aj.c Aj.wf:=(Yd (RB.struct underlying110 (by kernel_rfl) (Em QL (Em QL (Em QL (Em QL RF.nil))))) (λp=>⟨p.1,p.2.1,p.2.2.1,p.2.2.2.1⟩) Zf (λ_ h=>h)).down
def Au.wf(x:Au):Prop:=(Qq .i64) x.BK/\(Qq .i64) x.By/\(Qq .i64) x.Bj/\(Qq .i64) x.B2/\True
theorem _W:RB prog n 112 Au Au.c Au.wf:=(Yd (RB.struct underlying112 (by kernel_rfl) (Em QL (Em QL (Em QL (Em QL RF.nil))))) (λp=>⟨p.1,p.2.1,p.2.2.1,p.2.2.2.1⟩) Zf (λ_ h=>h)).down
def Af.wf(x:Af):Prop:=(Qq .i64) x.BK/\(Qq .i64) x.BU/\(Qq .i64) x.AX/\(Qq .i64) x.BT/\(Qq .i64) x.AT/\(Qq .i64) x.BO/\True
theorem _X:RB prog n 114 Af Af.c Af.wf:=(Yd (RB.struct underlying114 (by kernel_rfl) (Em QL (Em QL (Em QL (Em QL (Em QL (Em QL RF.nil))))))) (λp=>⟨p.1,p.2.1,p.2.2.1,p.2.2.2.1,p.2.2.2.2.1,p.2.2.2.2.2.1⟩) Zf (λ_ h=>h)).down
def BE.wf(x:BE):Prop:=(Qq .i64) x.BK/\(λ_=>True) x.Bg/\True
theorem _Y:RB prog n 116 BE BE.c BE.wf:=(Yd (RB.struct underlying116 (by kernel_rfl) (Em QL (Em (RB.bool underlying4) RF.nil))) (λp=>⟨p.1,p.2.1⟩) Zf (λ_ h=>h)).down
def Ly.wf(x:Ly):Prop:=(Qq .i64) x.BF/\(Qq .i64) x.No/\True
theorem _Z:RB prog n 118 Ly Ly.c Ly.wf:=(Yd (RB.struct underlying118 (by kernel_rfl) (Em QL (Em QL RF.nil))) (λp=>⟨p.1,p.2.1⟩) Zf (λ_ h=>h)).down
def CH.wf(x:CH):Prop:=(Qq .i64) x.BF/\(Qq .i64) x.No/\(Qq .i64) x.At/\(Qq .i64) x.AX/\AO.wf x.AO/\A4.wf x.A4/\Aa.wf x.Aa/\An.wf x.An/\Ac.wf x.Ac/\Ap.wf x.Ap/\Bb.wf x.Bb/\Aj.wf x.Aj/\Au.wf x.Au/\Af.wf x.Af/\BE.wf x.BE/\Ly.wf x.Bo/\True
theorem _a:RB prog n 120 CH CH.c CH.wf:=(Yd (RB.struct underlying120 (by kernel_rfl) (Em QL (Em QL (Em QL (Em QL (El (k:=8) rfl (by kernel_rfl) (aO n) (El (k:=4) rfl (by kernel_rfl) (aL n) (El (k:=5) rfl (by kernel_rfl) (_Q n) (El (k:=8) rfl (by kernel_rfl) (_R n) (El (k:=4) rfl (by kernel_rfl) (_S n) (El (k:=4) rfl (by kernel_rfl) (_T n) (El (k:=2) rfl (by kernel_rfl) (_U n) (El (k:=4) rfl (by kernel_rfl) (_V n) (El (k:=4) rfl (by kernel_rfl) (_W n) (El (k:=6) rfl (by kernel_rfl) (_X n) (El (k:=2) rfl (by kernel_rfl) (_Y n) (El (k:=2) rfl (by kernel_rfl) (_Z n) RF.nil))))))))))))))))) (λp=>⟨p.1,p.2.1,p.2.2.1,p.2.2.2.1,p.2.2.2.2.1,p.2.2.2.2.2.1,p.2.2.2.2.2.2.1,p.2.2.2.2.2.2.2.1,p.2.2.2.2.2.2.2.2.1,p.2.2.2.2.2.2.2.2.2.1,p.2.2.2.2.2.2.2.2.2.2.1,p.2.2.2.2.2.2.2.2.2.2.2.1,p.2.2.2.2.2.2.2.2.2.2.2.2.1,p.2.2.2.2.2.2.2.2.2.2.2.2.2.1,p.2.2.2.2.2.2.2.2.2.2.2.2.2.2.1,p.2.2.2.2.2.2.2.2.2.2.2.2.2.2.2.1⟩) Zf (λ_ h=>h)).down
end Go.Sw
