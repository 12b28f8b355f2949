/- How the arguments of ClocksAlignSpec are read. -/
import Derived.Test.YthnmbndffmhalaaGreatDoorW16AlA
set_option linter.unusedVariables false
set_option linter.unusedSimpArgs false
set_option maxRecDepth 100000
set_option maxHeartbeats 4000000
namespace Go.Sw
open List renaming length→AI
variable (n:Nat)
open Go.Proofs Tryz
def Ag.wf(x:Ag):Prop:=(λs=>AI s<=1048576) x.An/\(Qp .i64) x.AN/\True
theorem uy:RB prog n 112 Ag Ag.c Ag.wf:=(QW (RB.struct underlying112 (by kernel_rfl) (Eo (RB.string Gh) (Eo QF RF.nil))) (λp=>⟨p.1,p.2.1⟩) Zf (λ_ h=>h)).down
def DO.wf(x:DO):Prop:=(Qp .i64) x.Ai/\(Qp .i64) x.To/\(Qp .i64) x.BQ/\(Qp .i64) x.BO/\True
theorem u9:RB prog n 149 DO DO.c DO.wf:=(QW (RB.struct underlying149 (by kernel_rfl) (Eo QF (Eo QF (Eo QF (Eo QF RF.nil))))) (λp=>⟨p.1,p.2.1,p.2.2.1,p.2.2.2.1⟩) Zf (λ_ h=>h)).down
mutual
def Bo.wf:Bo->Prop
  |⟨x0,x1,x2⟩=>((Qp .i64) x0)/\((Qp .i64) x1)/\(AI x2<=1048576/\Bo.wfs x2)/\True
def Bo.wfs:AA Bo->Prop
  |[]=>True
  |x::l=>Bo.wf x/\Bo.wfs l
end
theorem uB(l:AA Bo):Bo.wfs l↔ ∀x∈l,Bo.wf x:=by
  induction l with
  |nil=>simp[Bo.wfs]
  |cons x l ih=>simp[Bo.wfs,ih]
theorem u7:∀n,RB prog n 134 Bo Bo.enc Bo.wf:=eP (λn ih=>QW (RB.struct underlying134 (by kernel_rfl) (Eo QF (Eo QF (Eo (RB.slice (k:=3) underlying91 (by kernel_rfl) rfl (λx=>by rw[Yi];rfl) ih).down RF.nil)))) (λp=>⟨p.1,p.2.1,p.2.2.1⟩) (λp=>by simp[Bo.enc,uA,Qe,G5,JM,Qw]) (λp h=>by simpa[Bo.wf,uB]using h))
def Bw.wf(x:Bw):Prop:=(Qp .i64) x.Ag/\(Qp .i64) x.Bf/\(Qp .i64) x.BY/\True
theorem wQ:RB prog n 200 Bw Bw.c Bw.wf:=(QW (RB.struct underlying200 (by kernel_rfl) (Eo QF (Eo QF (Eo QF RF.nil)))) (λp=>⟨p.1,p.2.1,p.2.2.1⟩) Zf (λ_ h=>h)).down
def AQ.wf(x:AQ):Prop:=(λs=>AI s<=1048576) x.An/\(λl=>AI l<=1048576/\ ∀x∈l,Bo.wf x) x.Aw/\(Qp .i64) x.BS/\(λl=>AI l<=1048576/\ ∀x∈l,Bw.wf x) x.Ao/\(Qp .i64) x.Am/\True
theorem VO:RB prog n 94 AQ AQ.c AQ.wf:=(QW (RB.struct underlying94 (by kernel_rfl) (Eo (RB.string Gh) (Eo (RB.slice (k:=3) underlying91 (by kernel_rfl) rfl (λx=>by rw[Yi];rfl) (u7 n)).down (Eo QF (Eo (RB.slice (k:=3) underlying92 (by kernel_rfl) rfl Zf (wQ n)).down (Eo QF RF.nil)))))) (λp=>⟨p.1,p.2.1,p.2.2.1,p.2.2.2.1,p.2.2.2.2.1⟩) Zf (λ_ h=>h)).down
def A'.wf(x:A'):Prop:=(λs=>AI s<=1048576) x.An/\(Qp .i64) x.Bj/\True
theorem u_:RB prog n 186 A' A'.c A'.wf:=(QW (RB.struct underlying186 (by kernel_rfl) (Eo (RB.string Gh) (Eo QF RF.nil))) (λp=>⟨p.1,p.2.1⟩) Zf (λ_ h=>h)).down
def Ah.wf(x:Ah):Prop:=(λs=>AI s<=1048576) x.An/\(Qp .i64) x.BT/\(Qp .i64) x.Ax/\(λ_=>True) x.Bg/\True
theorem u':RB prog n 190 Ah Ah.c Ah.wf:=(QW (RB.struct underlying190 (by kernel_rfl) (Eo (RB.string Gh) (Eo QF (Eo QF (Eo (RB.bool underlying4) RF.nil))))) (λp=>⟨p.1,p.2.1,p.2.2.1,p.2.2.2.1⟩) Zf (λ_ h=>h)).down
def Aa.wf(x:Aa):Prop:=(λs=>AI s<=1048576) x.An/\(Qp .i64) x.Ai/\(Qp .i64) x.To/\True
theorem vA:RB prog n 194 Aa Aa.c Aa.wf:=(QW (RB.struct underlying194 (by kernel_rfl) (Eo (RB.string Gh) (Eo QF (Eo QF RF.nil)))) (λp=>⟨p.1,p.2.1,p.2.2.1⟩) Zf (λ_ h=>h)).down
def CB.wf(x:CB):Prop:=(Qp .i64) x.AQ/\(Qp .i64) x.Aa/\(Qp .i64) x.BP/\(Qp .i64) x.A5/\True
theorem wR:RB prog n 206 CB CB.c CB.wf:=(QW (RB.struct underlying206 (by kernel_rfl) (Eo QF (Eo QF (Eo QF (Eo QF RF.nil))))) (λp=>⟨p.1,p.2.1,p.2.2.1,p.2.2.2.1⟩) Zf (λ_ h=>h)).down
mutual
def AP.wf:AP->Prop
  |⟨x0,x1,x2,x3⟩=>((Qp .i64) x0)/\((Qp .i64) x1)/\((Qp .i64) x2)/\(AI x3<=1048576/\AP.wfs x3)/\True
def AP.wfs:AA AP->Prop
  |[]=>True
  |x::l=>AP.wf x/\AP.wfs l
end
theorem t9(l:AA AP):AP.wfs l↔ ∀x∈l,AP.wf x:=by
  induction l with
  |nil=>simp[AP.wfs]
  |cons x l ih=>simp[AP.wfs,ih]
theorem uz:∀n,RB prog n 115 AP AP.enc AP.wf:=eP (λn ih=>QW (RB.struct underlying115 (by kernel_rfl) (Eo QF (Eo QF (Eo QF (Eo (RB.slice (k:=4) underlying113 (by kernel_rfl) rfl (λx=>by rw[aX];rfl) ih).down RF.nil))))) (λp=>⟨p.1,p.2.1,p.2.2.1,p.2.2.2.1⟩) (λp=>by simp[AP.enc,t8,Qe,G5,JM,Qw]) (λp h=>by simpa[AP.wf,t9]using h))
mutual
def AZ.wf:AZ->Prop
  |⟨x0,x1,x2,x3,x4⟩=>((Qp .i64) x0)/\((Qp .i64) x1)/\(AP.wf x2)/\(AI x3<=1048576/\AZ.wfs x3)/\(AI x4<=1048576/\AZ.wfs x4)/\True
def AZ.wfs:AA AZ->Prop
  |[]=>True
  |x::l=>AZ.wf x/\AZ.wfs l
end
theorem uD(l:AA AZ):AZ.wfs l↔ ∀x∈l,AZ.wf x:=by
  induction l with
  |nil=>simp[AZ.wfs]
  |cons x l ih=>simp[AZ.wfs,ih]
theorem u6:∀n,RB prog n 117 AZ AZ.enc AZ.wf:=eP (λn ih=>QW (RB.struct underlying117 (by kernel_rfl) (Eo QF (Eo QF (En (k:=4) rfl (by kernel_rfl) (uz n) (Eo (RB.slice (k:=8) GN (by kernel_rfl) rfl (λx=>by rw[YP];rfl) ih).down (Eo (RB.slice (k:=8) GN (by kernel_rfl) rfl (λx=>by rw[YP];rfl) ih).down RF.nil)))))) (λp=>⟨p.1,p.2.1,p.2.2.1,p.2.2.2.1,p.2.2.2.2.1⟩) (λp=>by simp[AZ.enc,uC,Qe,G5,JM,Qw,aX,AP.c]) (λp h=>by simpa[AZ.wf,uD]using h))
def Ak.wf(x:Ak):Prop:=(Qp .i64) x.BW/\(Qp .i64) x.BU/\(Qp .i64) x.BV/\(Qp .i64) x.A6/\(Qp .i64) x.BM/\True
theorem V7:RB prog n 31 Ak Ak.c Ak.wf:=(QW (RB.struct underlying31 (by kernel_rfl) (Eo QF (Eo QF (Eo QF (Eo QF (Eo QF RF.nil)))))) (λp=>⟨p.1,p.2.1,p.2.2.1,p.2.2.2.1,p.2.2.2.2.1⟩) Zf (λ_ h=>h)).down
def Bl.wf(x:Bl):Prop:=(λs=>AI s<=1048576) x.An/\(λl=>AI l<=1048576/\ ∀x∈l,Ag.wf x) x.Ar/\(λl=>AI l<=1048576/\ ∀x∈l,DO.wf x) x.A8/\(λl=>AI l<=1048576/\ ∀x∈l,AQ.wf x) x.AX/\(λl=>AI l<=1048576/\ ∀x∈l,A'.wf x) x.A9/\(λl=>AI l<=1048576/\ ∀x∈l,Ah.wf x) x.Aq/\(λl=>AI l<=1048576/\ ∀x∈l,Aa.wf x) x.Ae/\(λl=>AI l<=1048576/\ ∀x∈l,CB.wf x) x.A7/\(λl=>AI l<=1048576/\ ∀x∈l,AZ.wf x) x.BK/\Ak.wf x.Ak/\(Qp .i64) x.Be/\(Qp .i64) x.BN/\True
theorem V6:RB prog n 33 Bl Bl.c Bl.wf:=(QW (RB.struct underlying33 (by kernel_rfl) (Eo (RB.string Gh) (Eo (RB.slice (k:=2) underlying22 (by kernel_rfl) rfl Zf (uy n)).down (Eo (RB.slice (k:=4) underlying23 (by kernel_rfl) rfl Zf (u9 n)).down (Eo (RB.slice (k:=5) underlying24 (by kernel_rfl) rfl Zf (VO n)).down (Eo (RB.slice (k:=2) underlying25 (by kernel_rfl) rfl Zf (u_ n)).down (Eo (RB.slice (k:=4) underlying26 (by kernel_rfl) rfl Zf (u' n)).down (Eo (RB.slice (k:=3) underlying27 (by kernel_rfl) rfl Zf (vA n)).down (Eo (RB.slice (k:=4) underlying28 (by kernel_rfl) rfl Zf (wR n)).down (Eo (RB.slice (k:=8) GN (by kernel_rfl) rfl (λx=>by rw[YP];rfl) (u6 n)).down (En (k:=5) rfl (by kernel_rfl) (V7 n) (Eo QF (Eo QF RF.nil))))))))))))) (λp=>⟨p.1,p.2.1,p.2.2.1,p.2.2.2.1,p.2.2.2.2.1,p.2.2.2.2.2.1,p.2.2.2.2.2.2.1,p.2.2.2.2.2.2.2.1,p.2.2.2.2.2.2.2.2.1,p.2.2.2.2.2.2.2.2.2.1,p.2.2.2.2.2.2.2.2.2.2.1,p.2.2.2.2.2.2.2.2.2.2.2.1⟩) Zf (λ_ h=>h)).down
def AW.wf(x:AW):Prop:=(Qp .i64) x.BH/\(Qp .i64) x.AQ/\(Qp .i64) x.A'/\(Qp .i64) x.Bb/\(Qp .i64) x.Bi/\(Qp .i64) x.BJ/\(Qp .i64) x.Bc/\(Qp .i64) x.Bh/\True
theorem V2:RB prog n 64 AW AW.c AW.wf:=(QW (RB.struct underlying64 (by kernel_rfl) (Eo QF (Eo QF (Eo QF (Eo QF (Eo QF (Eo QF (Eo QF (Eo QF RF.nil))))))))) (λp=>⟨p.1,p.2.1,p.2.2.1,p.2.2.2.1,p.2.2.2.2.1,p.2.2.2.2.2.1,p.2.2.2.2.2.2.1,p.2.2.2.2.2.2.2.1⟩) Zf (λ_ h=>h)).down
def Az.wf(x:Az):Prop:=(Qp .i64) x.Ag/\(Qp .i64) x.AT/\(Qp .i64) x.BJ/\(Qp .i64) x.Av/\True
theorem V1:RB prog n 66 Az Az.c Az.wf:=(QW (RB.struct underlying66 (by kernel_rfl) (Eo QF (Eo QF (Eo QF (Eo QF RF.nil))))) (λp=>⟨p.1,p.2.1,p.2.2.1,p.2.2.2.1⟩) Zf (λ_ h=>h)).down
def AO.wf(x:AO):Prop:=(Qp .i64) x.Ag/\(Qp .i64) x.AT/\(Qp .i64) x.Av/\(Qp .i64) x.True/\(Qp .i64) x.BX/\_root_.True
theorem V0:RB prog n 68 AO AO.c AO.wf:=(QW (RB.struct underlying68 (by kernel_rfl) (Eo QF (Eo QF (Eo QF (Eo QF (Eo QF RF.nil)))))) (λp=>⟨p.1,p.2.1,p.2.2.1,p.2.2.2.1,p.2.2.2.2.1⟩) Zf (λ_ h=>h)).down
def AV.wf(x:AV):Prop:=(Qp .i64) x.BE/\(Qp .i64) x.A2/\(Qp .i64) x.A1/\(Qp .i64) x.BF/\(Qp .i64) x.A3/\(Qp .i64) x.Ay/\(Qp .i64) x.BQ/\(Qp .i64) x.BO/\True
theorem VZ:RB prog n 70 AV AV.c AV.wf:=(QW (RB.struct underlying70 (by kernel_rfl) (Eo QF (Eo QF (Eo QF (Eo QF (Eo QF (Eo QF (Eo QF (Eo QF RF.nil))))))))) (λp=>⟨p.1,p.2.1,p.2.2.1,p.2.2.2.1,p.2.2.2.2.1,p.2.2.2.2.2.1,p.2.2.2.2.2.2.1,p.2.2.2.2.2.2.2.1⟩) Zf (λ_ h=>h)).down
def A0.wf(x:A0):Prop:=(Qp .i64) x.BH/\(Qp .i64) x.Af/\(Qp .i64) x.Lo/\(Qp .i64) x.Hi/\True
theorem VY:RB prog n 72 A0 A0.c A0.wf:=(QW (RB.struct underlying72 (by kernel_rfl) (Eo QF (Eo QF (Eo QF (Eo QF RF.nil))))) (λp=>⟨p.1,p.2.1,p.2.2.1,p.2.2.2.1⟩) Zf (λ_ h=>h)).down
def Ab.wf(x:Ab):Prop:=(Qp .i64) x.Ag/\(Qp .i64) x.AT/\(Qp .i64) x.Lo/\(Qp .i64) x.Hi/\True
theorem VX:RB prog n 74 Ab Ab.c Ab.wf:=(QW (RB.struct underlying74 (by kernel_rfl) (Eo QF (Eo QF (Eo QF (Eo QF RF.nil))))) (λp=>⟨p.1,p.2.1,p.2.2.1,p.2.2.2.1⟩) Zf (λ_ h=>h)).down
def BA.wf(x:BA):Prop:=(Qp .i64) x.A/\(Qp .i64) x.B/\True
theorem VW:RB prog n 76 BA BA.c BA.wf:=(QW (RB.struct underlying76 (by kernel_rfl) (Eo QF (Eo QF RF.nil))) (λp=>⟨p.1,p.2.1⟩) Zf (λ_ h=>h)).down
def Aj.wf(x:Aj):Prop:=(Qp .i64) x.A4/\(Qp .i64) x.BH/\(Qp .i64) x.Ah/\(Qp .i64) x.Af/\True
theorem VV:RB prog n 78 Aj Aj.c Aj.wf:=(QW (RB.struct underlying78 (by kernel_rfl) (Eo QF (Eo QF (Eo QF (Eo QF RF.nil))))) (λp=>⟨p.1,p.2.1,p.2.2.1,p.2.2.2.1⟩) Zf (λ_ h=>h)).down
def Ad.wf(x:Ad):Prop:=(Qp .i64) x.A4/\(Qp .i64) x.By/\(Qp .i64) x.Be/\(Qp .i64) x.Ba/\True
theorem VU:RB prog n 80 Ad Ad.c Ad.wf:=(QW (RB.struct underlying80 (by kernel_rfl) (Eo QF (Eo QF (Eo QF (Eo QF RF.nil))))) (λp=>⟨p.1,p.2.1,p.2.2.1,p.2.2.2.1⟩) Zf (λ_ h=>h)).down
def AS.wf(x:AS):Prop:=(Qp .i64) x.A4/\(Qp .i64) x.BC/\(Qp .i64) x.AN/\(Qp .i64) x.BH/\(Qp .i64) x.Af/\(Qp .i64) x.A5/\True
theorem VT:RB prog n 82 AS AS.c AS.wf:=(QW (RB.struct underlying82 (by kernel_rfl) (Eo QF (Eo QF (Eo QF (Eo QF (Eo QF (Eo QF RF.nil))))))) (λp=>⟨p.1,p.2.1,p.2.2.1,p.2.2.2.1,p.2.2.2.2.1,p.2.2.2.2.2.1⟩) Zf (λ_ h=>h)).down
def Al.wf(x:Al):Prop:=(Qp .i64) x.A4/\(λ_=>True) x.A_/\True
theorem VS:RB prog n 84 Al Al.c Al.wf:=(QW (RB.struct underlying84 (by kernel_rfl) (Eo QF (Eo (RB.bool underlying4) RF.nil))) (λp=>⟨p.1,p.2.1⟩) Zf (λ_ h=>h)).down
def Ko.wf(x:Ko):Prop:=(Qp .i64) x.Au/\(Qp .i64) x.No/\True
theorem VQ:RB prog n 86 Ko Ko.c Ko.wf:=(QW (RB.struct underlying86 (by kernel_rfl) (Eo QF (Eo QF RF.nil))) (λp=>⟨p.1,p.2.1⟩) Zf (λ_ h=>h)).down
def Bm.wf(x:Bm):Prop:=(Qp .i64) x.Au/\(Qp .i64) x.No/\(Qp .i64) x.At/\(Qp .i64) x.AN/\AW.wf x.AW/\Az.wf x.Az/\AO.wf x.AO/\AV.wf x.AV/\A0.wf x.A0/\Ab.wf x.Ab/\BA.wf x.BA/\Aj.wf x.Aj/\Ad.wf x.Ad/\AS.wf x.AS/\Al.wf x.Al/\Ko.wf x.BI/\True
theorem VP:RB prog n 88 Bm Bm.c Bm.wf:=(QW (RB.struct underlying88 (by kernel_rfl) (Eo QF (Eo QF (Eo QF (Eo QF (En (k:=8) rfl (by kernel_rfl) (V2 n) (En (k:=4) rfl (by kernel_rfl) (V1 n) (En (k:=5) rfl (by kernel_rfl) (V0 n) (En (k:=8) rfl (by kernel_rfl) (VZ n) (En (k:=4) rfl (by kernel_rfl) (VY n) (En (k:=4) rfl (by kernel_rfl) (VX n) (En (k:=2) rfl (by kernel_rfl) (VW n) (En (k:=4) rfl (by kernel_rfl) (VV n) (En (k:=4) rfl (by kernel_rfl) (VU n) (En (k:=6) rfl (by kernel_rfl) (VT n) (En (k:=2) rfl (by kernel_rfl) (VS n) (En (k:=2) rfl (by kernel_rfl) (VQ n) RF.nil))))))))))))))))) (λp=>⟨p.1,p.2.1,p.2.2.1,p.2.2.2.1,p.2.2.2.2.1,p.2.2.2.2.2.1,p.2.2.2.2.2.2.1,p.2.2.2.2.2.2.2.1,p.2.2.2.2.2.2.2.2.1,p.2.2.2.2.2.2.2.2.2.1,p.2.2.2.2.2.2.2.2.2.2.1,p.2.2.2.2.2.2.2.2.2.2.2.1,p.2.2.2.2.2.2.2.2.2.2.2.2.1,p.2.2.2.2.2.2.2.2.2.2.2.2.2.1,p.2.2.2.2.2.2.2.2.2.2.2.2.2.2.1,p.2.2.2.2.2.2.2.2.2.2.2.2.2.2.2.1⟩) Zf (λ_ h=>h)).down
def Bk.wf(x:Bk):Prop:=(Qp .i64) x.Ag/\(Qp .i64) x.AT/\(Qp .i64) x.As/\True
theorem V3:RB prog n 55 Bk Bk.c Bk.wf:=(QW (RB.struct underlying55 (by kernel_rfl) (Eo QF (Eo QF (Eo QF RF.nil)))) (λp=>⟨p.1,p.2.1,p.2.2.1⟩) Zf (λ_ h=>h)).down
def Bp.wf(x:Bp):Prop:=(λl=>AI l<=1048576/\ ∀x∈l,Bk.wf x) x.AR/\(λl=>AI l<=1048576/\ ∀x∈l,(λl=>AI l<=1048576/\ ∀x∈l,(Qp .i64) x) x) x.BB/\True
theorem V5:RB prog n 38 Bp Bp.c Bp.wf:=(QW (RB.struct underlying38 (by kernel_rfl) (Eo (RB.slice (k:=3) underlying35 (by kernel_rfl) rfl Zf (V3 n)).down (Eo (RB.slice (k:=1) underlying36 (by kernel_rfl) rfl Zf (RB.slice (k:=1) underlying90 (by kernel_rfl) rfl Zf QF).down).down RF.nil))) (λp=>⟨p.1,p.2.1⟩) Zf (λ_ h=>h)).down
def CA.wf(x:CA):Prop:=(Qp .i64) x.Lo/\(Qp .i64) x.Hi/\True
theorem V4:RB prog n 40 CA CA.c CA.wf:=(QW (RB.struct underlying40 (by kernel_rfl) (Eo QF (Eo QF RF.nil))) (λp=>⟨p.1,p.2.1⟩) Zf (λ_ h=>h)).down
end Go.Sw
