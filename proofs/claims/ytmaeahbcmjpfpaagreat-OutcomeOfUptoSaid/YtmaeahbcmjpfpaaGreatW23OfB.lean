/- How the arguments of OutcomeOf are read. -/
import Derived.Test.YtmaeahbcmjpfpaaGreatW23OfA
set_option linter.unusedVariables false
set_option linter.unusedSimpArgs false
set_option maxRecDepth 100000
set_option maxHeartbeats 4000000
namespace Go.Sw
open List renaming length→AI
variable (n:Nat)
open Go.Proofs Tryz
def Af.wf(x:Af):Prop:=(λs=>AI s<=1048576) x.Ar/\(Qn .i64) x.AV/\True
theorem QrG:RB prog n 206 Af Af.c Af.wf:=(QY (RB.struct underlying206 (by kernel_rfl) (Em (RB.string EX) (Em QG RF.nil))) (λp=>⟨p.1,p.2.1⟩) Zf (λ_ h=>h)).down
def C2.wf(x:C2):Prop:=(Qn .i64) x.A5/\(Qn .i64) x.To/\(Qn .i64) x.Bn/\(Qn .i64) x.Bs/\True
theorem QrF:RB prog n 213 C2 C2.c C2.wf:=(QY (RB.struct underlying213 (by kernel_rfl) (Em QG (Em QG (Em QG (Em QG RF.nil))))) (λp=>⟨p.1,p.2.1,p.2.2.1,p.2.2.2.1⟩) Zf (λ_ h=>h)).down
mutual
def CM.wf:CM->Prop
  |⟨x0,x1,x2⟩=>((Qn .i64) x0)/\((Qn .i64) x1)/\(AI x2<=1048576/\CM.wfs x2)/\True
def CM.wfs:AA CM->Prop
  |[]=>True
  |x::l=>CM.wf x/\CM.wfs l
end
theorem xE(l:AA CM):CM.wfs l↔ ∀x∈l,CM.wf x:=by
  induction l with
  |nil=>simp[CM.wfs]
  |cons x l ih=>simp[CM.wfs,ih]
theorem QrC:∀n,RB prog n 246 CM CM.enc CM.wf:=i9 (λn ih=>QY (RB.struct underlying246 (by kernel_rfl) (Em QG (Em QG (Em (RB.slice (k:=3) underlying166 (by kernel_rfl) rfl (λx=>by rw[YF];rfl) ih).down RF.nil)))) (λp=>⟨p.1,p.2.1,p.2.2.1⟩) (λp=>by simp[CM.enc,xD,Q9,JG,JY,QC]) (λp h=>by simpa[CM.wf,xE]using h))
def CX.wf(x:CX):Prop:=(Qn .i64) x.Af/\(Qn .i64) x.B9/\(Qn .i64) x.Bu/\True
theorem QrD:RB prog n 240 CX CX.c CX.wf:=(QY (RB.struct underlying240 (by kernel_rfl) (Em QG (Em QG (Em QG RF.nil)))) (λp=>⟨p.1,p.2.1,p.2.2.1⟩) Zf (λ_ h=>h)).down
def AN.wf(x:AN):Prop:=(λs=>AI s<=1048576) x.Ar/\(λl=>AI l<=1048576/\ ∀x∈l,CM.wf x) x.Ab/\(Qn .i64) x.BI/\(λl=>AI l<=1048576/\ ∀x∈l,CX.wf x) x.Am/\(Qn .i64) x.Ae/\True
theorem QrH:RB prog n 169 AN AN.c AN.wf:=(QY (RB.struct underlying169 (by kernel_rfl) (Em (RB.string EX) (Em (RB.slice (k:=3) underlying166 (by kernel_rfl) rfl (λx=>by rw[YF];rfl) (QrC n)).down (Em QG (Em (RB.slice (k:=3) underlying167 (by kernel_rfl) rfl Zf (QrD n)).down (Em QG RF.nil)))))) (λp=>⟨p.1,p.2.1,p.2.2.1,p.2.2.2.1,p.2.2.2.2.1⟩) Zf (λ_ h=>h)).down
def Aw.wf(x:Aw):Prop:=(λs=>AI s<=1048576) x.Ar/\(Qn .i64) x.B0/\True
theorem QrE:RB prog n 236 Aw Aw.c Aw.wf:=(QY (RB.struct underlying236 (by kernel_rfl) (Em (RB.string EX) (Em QG RF.nil))) (λp=>⟨p.1,p.2.1⟩) Zf (λ_ h=>h)).down
def Ag.wf(x:Ag):Prop:=(λs=>AI s<=1048576) x.Ar/\(Qn .i64) x.BV/\(Qn .i64) x.Aj/\(λ_=>True) x.BP/\True
theorem Qrz:RB prog n 260 Ag Ag.c Ag.wf:=(QY (RB.struct underlying260 (by kernel_rfl) (Em (RB.string EX) (Em QG (Em QG (Em (RB.bool underlying4) RF.nil))))) (λp=>⟨p.1,p.2.1,p.2.2.1,p.2.2.2.1⟩) Zf (λ_ h=>h)).down
def AZ.wf(x:AZ):Prop:=(λs=>AI s<=1048576) x.Ar/\(Qn .i64) x.A5/\(Qn .i64) x.To/\True
theorem Qry:RB prog n 262 AZ AZ.c AZ.wf:=(QY (RB.struct underlying262 (by kernel_rfl) (Em (RB.string EX) (Em QG (Em QG RF.nil)))) (λp=>⟨p.1,p.2.1,p.2.2.1⟩) Zf (λ_ h=>h)).down
def Cc.wf(x:Cc):Prop:=(Qn .i64) x.AN/\(Qn .i64) x.AZ/\(Qn .i64) x.Bk/\(Qn .i64) x.BW/\True
theorem Qrx:RB prog n 267 Cc Cc.c Cc.wf:=(QY (RB.struct underlying267 (by kernel_rfl) (Em QG (Em QG (Em QG (Em QG RF.nil))))) (λp=>⟨p.1,p.2.1,p.2.2.1,p.2.2.2.1⟩) Zf (λ_ h=>h)).down
mutual
def AR.wf:AR->Prop
  |⟨x0,x1,x2,x3⟩=>((Qn .i64) x0)/\((Qn .i64) x1)/\((Qn .i64) x2)/\(AI x3<=1048576/\AR.wfs x3)/\True
def AR.wfs:AA AR->Prop
  |[]=>True
  |x::l=>AR.wf x/\AR.wfs l
end
theorem w_(l:AA AR):AR.wfs l↔ ∀x∈l,AR.wf x:=by
  induction l with
  |nil=>simp[AR.wfs]
  |cons x l ih=>simp[AR.wfs,ih]
theorem QrB:∀n,RB prog n 249 AR AR.enc AR.wf:=i9 (λn ih=>QY (RB.struct underlying249 (by kernel_rfl) (Em QG (Em QG (Em QG (Em (RB.slice (k:=4) underlying247 (by kernel_rfl) rfl (λx=>by rw[fR];rfl) ih).down RF.nil))))) (λp=>⟨p.1,p.2.1,p.2.2.1,p.2.2.2.1⟩) (λp=>by simp[AR.enc,w9,Q9,JG,JY,QC]) (λp h=>by simpa[AR.wf,w_]using h))
mutual
def AX.wf:AX->Prop
  |⟨x0,x1,x2,x3,x4⟩=>((Qn .i64) x0)/\((Qn .i64) x1)/\(AR.wf x2)/\(AI x3<=1048576/\AX.wfs x3)/\(AI x4<=1048576/\AX.wfs x4)/\True
def AX.wfs:AA AX->Prop
  |[]=>True
  |x::l=>AX.wf x/\AX.wfs l
end
theorem xI(l:AA AX):AX.wfs l↔ ∀x∈l,AX.wf x:=by
  induction l with
  |nil=>simp[AX.wfs]
  |cons x l ih=>simp[AX.wfs,ih]
theorem QrA:∀n,RB prog n 251 AX AX.enc AX.wf:=i9 (λn ih=>QY (RB.struct underlying251 (by kernel_rfl) (Em QG (Em QG (El (k:=4) rfl (by kernel_rfl) (QrB n) (Em (RB.slice (k:=8) Gp (by kernel_rfl) rfl (λx=>by rw[fT];rfl) ih).down (Em (RB.slice (k:=8) Gp (by kernel_rfl) rfl (λx=>by rw[fT];rfl) ih).down RF.nil)))))) (λp=>⟨p.1,p.2.1,p.2.2.1,p.2.2.2.1,p.2.2.2.2.1⟩) (λp=>by simp[AX.enc,xH,Q9,JG,JY,QC,fR,AR.c]) (λp h=>by simpa[AX.wf,xI]using h))
def AT.wf(x:AT):Prop:=(Qn .i64) x.BK/\(Qn .i64) x.BF/\(Qn .i64) x.BH/\(Qn .i64) x.A0/\(Qn .i64) x.Ba/\True
theorem b_:RB prog n 31 AT AT.c AT.wf:=(QY (RB.struct underlying31 (by kernel_rfl) (Em QG (Em QG (Em QG (Em QG (Em QG RF.nil)))))) (λp=>⟨p.1,p.2.1,p.2.2.1,p.2.2.2.1,p.2.2.2.2.1⟩) Zf (λ_ h=>h)).down
def CE.wf(x:CE):Prop:=(λs=>AI s<=1048576) x.Ar/\(λl=>AI l<=1048576/\ ∀x∈l,Af.wf x) x.An/\(λl=>AI l<=1048576/\ ∀x∈l,C2.wf x) x.As/\(λl=>AI l<=1048576/\ ∀x∈l,AN.wf x) x.AO/\(λl=>AI l<=1048576/\ ∀x∈l,Aw.wf x) x.Ax/\(λl=>AI l<=1048576/\ ∀x∈l,Ag.wf x) x.Ah/\(λl=>AI l<=1048576/\ ∀x∈l,AZ.wf x) x.Ac/\(λl=>AI l<=1048576/\ ∀x∈l,Cc.wf x) x.A3/\(λl=>AI l<=1048576/\ ∀x∈l,AX.wf x) x.BZ/\AT.wf x.AT/\(Qn .i64) x.B7/\(Qn .i64) x.BL/\True
theorem b9:RB prog n 33 CE CE.c CE.wf:=(QY (RB.struct underlying33 (by kernel_rfl) (Em (RB.string EX) (Em (RB.slice (k:=2) underlying22 (by kernel_rfl) rfl Zf (QrG n)).down (Em (RB.slice (k:=4) underlying23 (by kernel_rfl) rfl Zf (QrF n)).down (Em (RB.slice (k:=5) underlying24 (by kernel_rfl) rfl Zf (QrH n)).down (Em (RB.slice (k:=2) underlying25 (by kernel_rfl) rfl Zf (QrE n)).down (Em (RB.slice (k:=4) underlying26 (by kernel_rfl) rfl Zf (Qrz n)).down (Em (RB.slice (k:=3) underlying27 (by kernel_rfl) rfl Zf (Qry n)).down (Em (RB.slice (k:=4) underlying28 (by kernel_rfl) rfl Zf (Qrx n)).down (Em (RB.slice (k:=8) Gp (by kernel_rfl) rfl (λx=>by rw[fT];rfl) (QrA n)).down (El (k:=5) rfl (by kernel_rfl) (b_ n) (Em QG (Em QG RF.nil))))))))))))) (λp=>⟨p.1,p.2.1,p.2.2.1,p.2.2.2.1,p.2.2.2.2.1,p.2.2.2.2.2.1,p.2.2.2.2.2.2.1,p.2.2.2.2.2.2.2.1,p.2.2.2.2.2.2.2.2.1,p.2.2.2.2.2.2.2.2.2.1,p.2.2.2.2.2.2.2.2.2.2.1,p.2.2.2.2.2.2.2.2.2.2.2.1⟩) Zf (λ_ h=>h)).down
def AP.wf(x:AP):Prop:=(Qn .i64) x.Bf/\(Qn .i64) x.AN/\(Qn .i64) x.Aw/\(Qn .i64) x.Bc/\(Qn .i64) x.B'/\(Qn .i64) x.A'/\(Qn .i64) x.Bv/\(Qn .i64) x.B_/\True
theorem b5:RB prog n 41 AP AP.c AP.wf:=(QY (RB.struct underlying41 (by kernel_rfl) (Em QG (Em QG (Em QG (Em QG (Em QG (Em QG (Em QG (Em QG RF.nil))))))))) (λp=>⟨p.1,p.2.1,p.2.2.1,p.2.2.2.1,p.2.2.2.2.1,p.2.2.2.2.2.1,p.2.2.2.2.2.2.1,p.2.2.2.2.2.2.2.1⟩) Zf (λ_ h=>h)).down
def A_.wf(x:A_):Prop:=(Qn .i64) x.Af/\(Qn .i64) x.Ad/\(Qn .i64) x.A'/\(Qn .i64) x.BU/\True
theorem bZ:RB prog n 87 A_ A_.c A_.wf:=(QY (RB.struct underlying87 (by kernel_rfl) (Em QG (Em QG (Em QG (Em QG RF.nil))))) (λp=>⟨p.1,p.2.1,p.2.2.1,p.2.2.2.1⟩) Zf (λ_ h=>h)).down
def Av.wf(x:Av):Prop:=(Qn .i64) x.Af/\(Qn .i64) x.Ad/\(Qn .i64) x.BU/\(Qn .i64) x.True/\(Qn .i64) x.CC/\_root_.True
theorem bY:RB prog n 89 Av Av.c Av.wf:=(QY (RB.struct underlying89 (by kernel_rfl) (Em QG (Em QG (Em QG (Em QG (Em QG RF.nil)))))) (λp=>⟨p.1,p.2.1,p.2.2.1,p.2.2.2.1,p.2.2.2.2.1⟩) Zf (λ_ h=>h)).down
def BA.wf(x:BA):Prop:=(Qn .i64) x.B5/\(Qn .i64) x.Bq/\(Qn .i64) x.Br/\(Qn .i64) x.B4/\(Qn .i64) x.Bm/\(Qn .i64) x.Bp/\(Qn .i64) x.Bn/\(Qn .i64) x.Bs/\True
theorem bX:RB prog n 91 BA BA.c BA.wf:=(QY (RB.struct underlying91 (by kernel_rfl) (Em QG (Em QG (Em QG (Em QG (Em QG (Em QG (Em QG (Em QG RF.nil))))))))) (λp=>⟨p.1,p.2.1,p.2.2.1,p.2.2.2.1,p.2.2.2.2.1,p.2.2.2.2.2.1,p.2.2.2.2.2.2.1,p.2.2.2.2.2.2.2.1⟩) Zf (λ_ h=>h)).down
def AY.wf(x:AY):Prop:=(Qn .i64) x.Bf/\(Qn .i64) x.AS/\(Qn .i64) x.Lo/\(Qn .i64) x.Hi/\True
theorem bV:RB prog n 93 AY AY.c AY.wf:=(QY (RB.struct underlying93 (by kernel_rfl) (Em QG (Em QG (Em QG (Em QG RF.nil))))) (λp=>⟨p.1,p.2.1,p.2.2.1,p.2.2.2.1⟩) Zf (λ_ h=>h)).down
def A2.wf(x:A2):Prop:=(Qn .i64) x.Af/\(Qn .i64) x.Ad/\(Qn .i64) x.Lo/\(Qn .i64) x.Hi/\True
theorem bT:RB prog n 95 A2 A2.c A2.wf:=(QY (RB.struct underlying95 (by kernel_rfl) (Em QG (Em QG (Em QG (Em QG RF.nil))))) (λp=>⟨p.1,p.2.1,p.2.2.1,p.2.2.2.1⟩) Zf (λ_ h=>h)).down
def Bh.wf(x:Bh):Prop:=(Qn .i64) x.A/\(Qn .i64) x.B/\True
theorem bS:RB prog n 97 Bh Bh.c Bh.wf:=(QY (RB.struct underlying97 (by kernel_rfl) (Em QG (Em QG RF.nil))) (λp=>⟨p.1,p.2.1⟩) Zf (λ_ h=>h)).down
def Ap.wf(x:Ap):Prop:=(Qn .i64) x.BS/\(Qn .i64) x.Bf/\(Qn .i64) x.Ag/\(Qn .i64) x.AS/\True
theorem bR:RB prog n 99 Ap Ap.c Ap.wf:=(QY (RB.struct underlying99 (by kernel_rfl) (Em QG (Em QG (Em QG (Em QG RF.nil))))) (λp=>⟨p.1,p.2.1,p.2.2.1,p.2.2.2.1⟩) Zf (λ_ h=>h)).down
def A7.wf(x:A7):Prop:=(Qn .i64) x.BS/\(Qn .i64) x.By/\(Qn .i64) x.B7/\(Qn .i64) x.CA/\True
theorem QrM:RB prog n 101 A7 A7.c A7.wf:=(QY (RB.struct underlying101 (by kernel_rfl) (Em QG (Em QG (Em QG (Em QG RF.nil))))) (λp=>⟨p.1,p.2.1,p.2.2.1,p.2.2.2.1⟩) Zf (λ_ h=>h)).down
def Ao.wf(x:Ao):Prop:=(Qn .i64) x.BS/\(Qn .i64) x.Bi/\(Qn .i64) x.AV/\(Qn .i64) x.Bf/\(Qn .i64) x.AS/\(Qn .i64) x.BW/\True
theorem QrL:RB prog n 103 Ao Ao.c Ao.wf:=(QY (RB.struct underlying103 (by kernel_rfl) (Em QG (Em QG (Em QG (Em QG (Em QG (Em QG RF.nil))))))) (λp=>⟨p.1,p.2.1,p.2.2.1,p.2.2.2.1,p.2.2.2.2.1,p.2.2.2.2.2.1⟩) Zf (λ_ h=>h)).down
def BG.wf(x:BG):Prop:=(Qn .i64) x.BS/\(λ_=>True) x.Bl/\True
theorem QrK:RB prog n 105 BG BG.c BG.wf:=(QY (RB.struct underlying105 (by kernel_rfl) (Em QG (Em (RB.bool underlying4) RF.nil))) (λp=>⟨p.1,p.2.1⟩) Zf (λ_ h=>h)).down
def L4.wf(x:L4):Prop:=(Qn .i64) x.BB/\(Qn .i64) x.No/\True
theorem QrJ:RB prog n 107 L4 L4.c L4.wf:=(QY (RB.struct underlying107 (by kernel_rfl) (Em QG (Em QG RF.nil))) (λp=>⟨p.1,p.2.1⟩) Zf (λ_ h=>h)).down
def CP.wf(x:CP):Prop:=(Qn .i64) x.BB/\(Qn .i64) x.No/\(Qn .i64) x.At/\(Qn .i64) x.AV/\AP.wf x.AP/\A_.wf x.A_/\Av.wf x.Av/\BA.wf x.BA/\AY.wf x.AY/\A2.wf x.A2/\Bh.wf x.Bh/\Ap.wf x.Ap/\A7.wf x.A7/\Ao.wf x.Ao/\BG.wf x.BG/\L4.wf x.B8/\True
theorem QrI:RB prog n 109 CP CP.c CP.wf:=(QY (RB.struct underlying109 (by kernel_rfl) (Em QG (Em QG (Em QG (Em QG (El (k:=8) rfl (by kernel_rfl) (b5 n) (El (k:=4) rfl (by kernel_rfl) (bZ n) (El (k:=5) rfl (by kernel_rfl) (bY n) (El (k:=8) rfl (by kernel_rfl) (bX n) (El (k:=4) rfl (by kernel_rfl) (bV n) (El (k:=4) rfl (by kernel_rfl) (bT n) (El (k:=2) rfl (by kernel_rfl) (bS n) (El (k:=4) rfl (by kernel_rfl) (bR n) (El (k:=4) rfl (by kernel_rfl) (QrM n) (El (k:=6) rfl (by kernel_rfl) (QrL n) (El (k:=2) rfl (by kernel_rfl) (QrK n) (El (k:=2) rfl (by kernel_rfl) (QrJ n) RF.nil))))))))))))))))) (λp=>⟨p.1,p.2.1,p.2.2.1,p.2.2.2.1,p.2.2.2.2.1,p.2.2.2.2.2.1,p.2.2.2.2.2.2.1,p.2.2.2.2.2.2.2.1,p.2.2.2.2.2.2.2.2.1,p.2.2.2.2.2.2.2.2.2.1,p.2.2.2.2.2.2.2.2.2.2.1,p.2.2.2.2.2.2.2.2.2.2.2.1,p.2.2.2.2.2.2.2.2.2.2.2.2.1,p.2.2.2.2.2.2.2.2.2.2.2.2.2.1,p.2.2.2.2.2.2.2.2.2.2.2.2.2.2.1,p.2.2.2.2.2.2.2.2.2.2.2.2.2.2.2.1⟩) Zf (λ_ h=>h)).down
end Go.Sw
