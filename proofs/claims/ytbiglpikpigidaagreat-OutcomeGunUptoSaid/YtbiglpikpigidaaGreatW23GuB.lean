/- How the arguments of OutcomeGun are read. -/
import Derived.Test.YtbiglpikpigidaaGreatW23GuA
set_option linter.unusedVariables false
set_option linter.unusedSimpArgs false
set_option maxRecDepth 100000
set_option maxHeartbeats 4000000
namespace Go.Sw
open List renaming length→AI
variable (n:Nat)
open Go.Proofs Tryz
def Al.wf(x:Al):Prop:=(λs=>AI s<=1048576) x.An/\(Qq .i64) x.AX/\True
theorem _q:RB prog n 214 Al Al.c Al.wf:=(Ya (RB.struct underlying214 (by kernel_rfl) (Em (RB.string Gp) (Em QM RF.nil))) (λp=>⟨p.1,p.2.1⟩) Zf (λ_ h=>h)).down
def Cr.wf(x:Cr):Prop:=(Qq .i64) x.BA/\(Qq .i64) x.To/\(Qq .i64) x.Bo/\(Qq .i64) x.Br/\True
theorem _r:RB prog n 221 Cr Cr.c Cr.wf:=(Ya (RB.struct underlying221 (by kernel_rfl) (Em QM (Em QM (Em QM (Em QM RF.nil))))) (λp=>⟨p.1,p.2.1,p.2.2.1,p.2.2.2.1⟩) Zf (λ_ h=>h)).down
mutual
def CH.wf:CH->Prop
  |⟨x0,x1,x2⟩=>((Qq .i64) x0)/\((Qq .i64) x1)/\(AI x2<=1048576/\CH.wfs x2)/\True
def CH.wfs:AA CH->Prop
  |[]=>True
  |x::l=>CH.wf x/\CH.wfs l
end
theorem ui(l:AA CH):CH.wfs l↔ ∀x∈l,CH.wf x:=by
  induction l with
  |nil=>simp[CH.wfs]
  |cons x l ih=>simp[CH.wfs,ih]
theorem Qr8:∀n,RB prog n 252 CH CH.enc CH.wf:=gv (λn ih=>Ya (RB.struct underlying252 (by kernel_rfl) (Em QM (Em QM (Em (RB.slice (k:=3) underlying63 (by kernel_rfl) rfl (λx=>by rw[QN];rfl) ih).down RF.nil)))) (λp=>⟨p.1,p.2.1,p.2.2.1⟩) (λp=>by simp[CH.enc,uh,Yq,JJ,JI,Qu]) (λp h=>by simpa[CH.wf,ui]using h))
def CO.wf(x:CO):Prop:=(Qq .i64) x.Al/\(Qq .i64) x.B_/\(Qq .i64) x.Bu/\True
theorem Qr9:RB prog n 245 CO CO.c CO.wf:=(Ya (RB.struct underlying245 (by kernel_rfl) (Em QM (Em QM (Em QM RF.nil)))) (λp=>⟨p.1,p.2.1,p.2.2.1⟩) Zf (λ_ h=>h)).down
def AN.wf(x:AN):Prop:=(λs=>AI s<=1048576) x.An/\(λl=>AI l<=1048576/\ ∀x∈l,CH.wf x) x.Af/\(Qq .i64) x.A9/\(λl=>AI l<=1048576/\ ∀x∈l,CO.wf x) x.Aq/\(Qq .i64) x.Am/\True
theorem aM:RB prog n 66 AN AN.c AN.wf:=(Ya (RB.struct underlying66 (by kernel_rfl) (Em (RB.string Gp) (Em (RB.slice (k:=3) underlying63 (by kernel_rfl) rfl (λx=>by rw[QN];rfl) (Qr8 n)).down (Em QM (Em (RB.slice (k:=3) underlying64 (by kernel_rfl) rfl Zf (Qr9 n)).down (Em QM RF.nil)))))) (λp=>⟨p.1,p.2.1,p.2.2.1,p.2.2.2.1,p.2.2.2.2.1⟩) Zf (λ_ h=>h)).down
def Aw.wf(x:Aw):Prop:=(λs=>AI s<=1048576) x.An/\(Qq .i64) x.Bv/\True
theorem aL:RB prog n 68 Aw Aw.c Aw.wf:=(Ya (RB.struct underlying68 (by kernel_rfl) (Em (RB.string Gp) (Em QM RF.nil))) (λp=>⟨p.1,p.2.1⟩) Zf (λ_ h=>h)).down
def AZ.wf(x:AZ):Prop:=(λs=>AI s<=1048576) x.An/\(Qq .i64) x.BX/\(Qq .i64) x.Ax/\(λ_=>True) x.BM/\True
theorem _s:RB prog n 232 AZ AZ.c AZ.wf:=(Ya (RB.struct underlying232 (by kernel_rfl) (Em (RB.string Gp) (Em QM (Em QM (Em (RB.bool underlying4) RF.nil))))) (λp=>⟨p.1,p.2.1,p.2.2.1,p.2.2.2.1⟩) Zf (λ_ h=>h)).down
def AW.wf(x:AW):Prop:=(λs=>AI s<=1048576) x.An/\(Qq .i64) x.BA/\(Qq .i64) x.To/\True
theorem _t:RB prog n 234 AW AW.c AW.wf:=(Ya (RB.struct underlying234 (by kernel_rfl) (Em (RB.string Gp) (Em QM (Em QM RF.nil)))) (λp=>⟨p.1,p.2.1,p.2.2.1⟩) Zf (λ_ h=>h)).down
def CQ.wf(x:CQ):Prop:=(Qq .i64) x.AN/\(Qq .i64) x.AW/\(Qq .i64) x.B3/\(Qq .i64) x.BO/\True
theorem _u:RB prog n 239 CQ CQ.c CQ.wf:=(Ya (RB.struct underlying239 (by kernel_rfl) (Em QM (Em QM (Em QM (Em QM RF.nil))))) (λp=>⟨p.1,p.2.1,p.2.2.1,p.2.2.2.1⟩) Zf (λ_ h=>h)).down
mutual
def AR.wf:AR->Prop
  |⟨x0,x1,x2,x3⟩=>((Qq .i64) x0)/\((Qq .i64) x1)/\((Qq .i64) x2)/\(AI x3<=1048576/\AR.wfs x3)/\True
def AR.wfs:AA AR->Prop
  |[]=>True
  |x::l=>AR.wf x/\AR.wfs l
end
theorem uc(l:AA AR):AR.wfs l↔ ∀x∈l,AR.wf x:=by
  induction l with
  |nil=>simp[AR.wfs]
  |cons x l ih=>simp[AR.wfs,ih]
theorem Qr7:∀n,RB prog n 255 AR AR.enc AR.wf:=gv (λn ih=>Ya (RB.struct underlying255 (by kernel_rfl) (Em QM (Em QM (Em QM (Em (RB.slice (k:=4) underlying253 (by kernel_rfl) rfl (λx=>by rw[Jj];rfl) ih).down RF.nil))))) (λp=>⟨p.1,p.2.1,p.2.2.1,p.2.2.2.1⟩) (λp=>by simp[AR.enc,ua,Yq,JJ,JI,Qu]) (λp h=>by simpa[AR.wf,uc]using h))
mutual
def AY.wf:AY->Prop
  |⟨x0,x1,x2,x3,x4⟩=>((Qq .i64) x0)/\((Qq .i64) x1)/\(AR.wf x2)/\(AI x3<=1048576/\AY.wfs x3)/\(AI x4<=1048576/\AY.wfs x4)/\True
def AY.wfs:AA AY->Prop
  |[]=>True
  |x::l=>AY.wf x/\AY.wfs l
end
theorem um(l:AA AY):AY.wfs l↔ ∀x∈l,AY.wf x:=by
  induction l with
  |nil=>simp[AY.wfs]
  |cons x l ih=>simp[AY.wfs,ih]
theorem Qr6:∀n,RB prog n 257 AY AY.enc AY.wf:=gv (λn ih=>Ya (RB.struct underlying257 (by kernel_rfl) (Em QM (Em QM (El (k:=4) rfl (by kernel_rfl) (Qr7 n) (Em (RB.slice (k:=8) G2 (by kernel_rfl) rfl (λx=>by rw[Yr];rfl) ih).down (Em (RB.slice (k:=8) G2 (by kernel_rfl) rfl (λx=>by rw[Yr];rfl) ih).down RF.nil)))))) (λp=>⟨p.1,p.2.1,p.2.2.1,p.2.2.2.1,p.2.2.2.2.1⟩) (λp=>by simp[AY.enc,uk,Yq,JJ,JI,Qu,Jj,AR.c]) (λp h=>by simpa[AY.wf,um]using h))
def AQ.wf(x:AQ):Prop:=(Qq .i64) x.A_/\(Qq .i64) x.A7/\(Qq .i64) x.A6/\(Qq .i64) x.Ak/\(Qq .i64) x.BC/\True
theorem aP:RB prog n 31 AQ AQ.c AQ.wf:=(Ya (RB.struct underlying31 (by kernel_rfl) (Em QM (Em QM (Em QM (Em QM (Em QM RF.nil)))))) (λp=>⟨p.1,p.2.1,p.2.2.1,p.2.2.2.1,p.2.2.2.2.1⟩) Zf (λ_ h=>h)).down
def CB.wf(x:CB):Prop:=(λs=>AI s<=1048576) x.An/\(λl=>AI l<=1048576/\ ∀x∈l,Al.wf x) x.Av/\(λl=>AI l<=1048576/\ ∀x∈l,Cr.wf x) x.A4/\(λl=>AI l<=1048576/\ ∀x∈l,AN.wf x) x.AO/\(λl=>AI l<=1048576/\ ∀x∈l,Aw.wf x) x.Ap/\(λl=>AI l<=1048576/\ ∀x∈l,AZ.wf x) x.Ab/\(λl=>AI l<=1048576/\ ∀x∈l,AW.wf x) x.AV/\(λl=>AI l<=1048576/\ ∀x∈l,CQ.wf x) x.A3/\(λl=>AI l<=1048576/\ ∀x∈l,AY.wf x) x.BN/\AQ.wf x.AQ/\(Qq .i64) x.Bk/\(Qq .i64) x.Az/\True
theorem aO:RB prog n 33 CB CB.c CB.wf:=(Ya (RB.struct underlying33 (by kernel_rfl) (Em (RB.string Gp) (Em (RB.slice (k:=2) underlying22 (by kernel_rfl) rfl Zf (_q n)).down (Em (RB.slice (k:=4) underlying23 (by kernel_rfl) rfl Zf (_r n)).down (Em (RB.slice (k:=5) underlying24 (by kernel_rfl) rfl Zf (aM n)).down (Em (RB.slice (k:=2) underlying25 (by kernel_rfl) rfl Zf (aL n)).down (Em (RB.slice (k:=4) underlying26 (by kernel_rfl) rfl Zf (_s n)).down (Em (RB.slice (k:=3) underlying27 (by kernel_rfl) rfl Zf (_t n)).down (Em (RB.slice (k:=4) underlying28 (by kernel_rfl) rfl Zf (_u n)).down (Em (RB.slice (k:=8) G2 (by kernel_rfl) rfl (λx=>by rw[Yr];rfl) (Qr6 n)).down (El (k:=5) rfl (by kernel_rfl) (aP n) (Em QM (Em QM RF.nil))))))))))))) (λp=>⟨p.1,p.2.1,p.2.2.1,p.2.2.2.1,p.2.2.2.2.1,p.2.2.2.2.2.1,p.2.2.2.2.2.2.1,p.2.2.2.2.2.2.2.1,p.2.2.2.2.2.2.2.2.1,p.2.2.2.2.2.2.2.2.2.1,p.2.2.2.2.2.2.2.2.2.2.1,p.2.2.2.2.2.2.2.2.2.2.2.1⟩) Zf (λ_ h=>h)).down
def AP.wf(x:AP):Prop:=(Qq .i64) x.BU/\(Qq .i64) x.AN/\(Qq .i64) x.Aw/\(Qq .i64) x.BK/\(Qq .i64) x.B7/\(Qq .i64) x.BB/\(Qq .i64) x.Bl/\(Qq .i64) x.B6/\True
theorem aN:RB prog n 41 AP AP.c AP.wf:=(Ya (RB.struct underlying41 (by kernel_rfl) (Em QM (Em QM (Em QM (Em QM (Em QM (Em QM (Em QM (Em QM RF.nil))))))))) (λp=>⟨p.1,p.2.1,p.2.2.1,p.2.2.2.1,p.2.2.2.2.1,p.2.2.2.2.2.1,p.2.2.2.2.2.2.1,p.2.2.2.2.2.2.2.1⟩) Zf (λ_ h=>h)).down
def A5.wf(x:A5):Prop:=(Qq .i64) x.Al/\(Qq .i64) x.Ah/\(Qq .i64) x.BB/\(Qq .i64) x.BD/\True
theorem aK:RB prog n 98 A5 A5.c A5.wf:=(Ya (RB.struct underlying98 (by kernel_rfl) (Em QM (Em QM (Em QM (Em QM RF.nil))))) (λp=>⟨p.1,p.2.1,p.2.2.1,p.2.2.2.1⟩) Zf (λ_ h=>h)).down
def Aa.wf(x:Aa):Prop:=(Qq .i64) x.Al/\(Qq .i64) x.Ah/\(Qq .i64) x.BD/\(Qq .i64) x.True/\(Qq .i64) x.B8/\_root_.True
theorem _f:RB prog n 100 Aa Aa.c Aa.wf:=(Ya (RB.struct underlying100 (by kernel_rfl) (Em QM (Em QM (Em QM (Em QM (Em QM RF.nil)))))) (λp=>⟨p.1,p.2.1,p.2.2.1,p.2.2.2.1,p.2.2.2.2.1⟩) Zf (λ_ h=>h)).down
def Ao.wf(x:Ao):Prop:=(Qq .i64) x.Bt/\(Qq .i64) x.Bg/\(Qq .i64) x.Bc/\(Qq .i64) x.Bs/\(Qq .i64) x.Bf/\(Qq .i64) x.Bb/\(Qq .i64) x.Bo/\(Qq .i64) x.Br/\True
theorem _g:RB prog n 102 Ao Ao.c Ao.wf:=(Ya (RB.struct underlying102 (by kernel_rfl) (Em QM (Em QM (Em QM (Em QM (Em QM (Em QM (Em QM (Em QM RF.nil))))))))) (λp=>⟨p.1,p.2.1,p.2.2.1,p.2.2.2.1,p.2.2.2.2.1,p.2.2.2.2.2.1,p.2.2.2.2.2.2.1,p.2.2.2.2.2.2.2.1⟩) Zf (λ_ h=>h)).down
def Ae.wf(x:Ae):Prop:=(Qq .i64) x.BU/\(Qq .i64) x.AT/\(Qq .i64) x.Lo/\(Qq .i64) x.Hi/\True
theorem _h:RB prog n 104 Ae Ae.c Ae.wf:=(Ya (RB.struct underlying104 (by kernel_rfl) (Em QM (Em QM (Em QM (Em QM RF.nil))))) (λp=>⟨p.1,p.2.1,p.2.2.1,p.2.2.2.1⟩) Zf (λ_ h=>h)).down
def Au.wf(x:Au):Prop:=(Qq .i64) x.Al/\(Qq .i64) x.Ah/\(Qq .i64) x.Lo/\(Qq .i64) x.Hi/\True
theorem _i:RB prog n 106 Au Au.c Au.wf:=(Ya (RB.struct underlying106 (by kernel_rfl) (Em QM (Em QM (Em QM (Em QM RF.nil))))) (λp=>⟨p.1,p.2.1,p.2.2.1,p.2.2.2.1⟩) Zf (λ_ h=>h)).down
def Be.wf(x:Be):Prop:=(Qq .i64) x.A/\(Qq .i64) x.B/\True
theorem _j:RB prog n 108 Be Be.c Be.wf:=(Ya (RB.struct underlying108 (by kernel_rfl) (Em QM (Em QM RF.nil))) (λp=>⟨p.1,p.2.1⟩) Zf (λ_ h=>h)).down
def Aj.wf(x:Aj):Prop:=(Qq .i64) x.BJ/\(Qq .i64) x.BU/\(Qq .i64) x.AZ/\(Qq .i64) x.AT/\True
theorem _k:RB prog n 110 Aj Aj.c Aj.wf:=(Ya (RB.struct underlying110 (by kernel_rfl) (Em QM (Em QM (Em QM (Em QM RF.nil))))) (λp=>⟨p.1,p.2.1,p.2.2.1,p.2.2.2.1⟩) Zf (λ_ h=>h)).down
def Ay.wf(x:Ay):Prop:=(Qq .i64) x.BJ/\(Qq .i64) x.By/\(Qq .i64) x.Bk/\(Qq .i64) x.B4/\True
theorem _l:RB prog n 112 Ay Ay.c Ay.wf:=(Ya (RB.struct underlying112 (by kernel_rfl) (Em QM (Em QM (Em QM (Em QM RF.nil))))) (λp=>⟨p.1,p.2.1,p.2.2.1,p.2.2.2.1⟩) Zf (λ_ h=>h)).down
def Ag.wf(x:Ag):Prop:=(Qq .i64) x.BJ/\(Qq .i64) x.BW/\(Qq .i64) x.AX/\(Qq .i64) x.BU/\(Qq .i64) x.AT/\(Qq .i64) x.BO/\True
theorem _m:RB prog n 114 Ag Ag.c Ag.wf:=(Ya (RB.struct underlying114 (by kernel_rfl) (Em QM (Em QM (Em QM (Em QM (Em QM (Em QM RF.nil))))))) (λp=>⟨p.1,p.2.1,p.2.2.1,p.2.2.2.1,p.2.2.2.2.1,p.2.2.2.2.2.1⟩) Zf (λ_ h=>h)).down
def BE.wf(x:BE):Prop:=(Qq .i64) x.BJ/\(λ_=>True) x.Bi/\True
theorem _n:RB prog n 116 BE BE.c BE.wf:=(Ya (RB.struct underlying116 (by kernel_rfl) (Em QM (Em (RB.bool underlying4) RF.nil))) (λp=>⟨p.1,p.2.1⟩) Zf (λ_ h=>h)).down
def L0.wf(x:L0):Prop:=(Qq .i64) x.BF/\(Qq .i64) x.No/\True
theorem _o:RB prog n 118 L0 L0.c L0.wf:=(Ya (RB.struct underlying118 (by kernel_rfl) (Em QM (Em QM RF.nil))) (λp=>⟨p.1,p.2.1⟩) Zf (λ_ h=>h)).down
def CI.wf(x:CI):Prop:=(Qq .i64) x.BF/\(Qq .i64) x.No/\(Qq .i64) x.At/\(Qq .i64) x.AX/\AP.wf x.AP/\A5.wf x.A5/\Aa.wf x.Aa/\Ao.wf x.Ao/\Ae.wf x.Ae/\Au.wf x.Au/\Be.wf x.Be/\Aj.wf x.Aj/\Ay.wf x.Ay/\Ag.wf x.Ag/\BE.wf x.BE/\L0.wf x.Bq/\True
theorem _p:RB prog n 120 CI CI.c CI.wf:=(Ya (RB.struct underlying120 (by kernel_rfl) (Em QM (Em QM (Em QM (Em QM (El (k:=8) rfl (by kernel_rfl) (aN n) (El (k:=4) rfl (by kernel_rfl) (aK n) (El (k:=5) rfl (by kernel_rfl) (_f n) (El (k:=8) rfl (by kernel_rfl) (_g n) (El (k:=4) rfl (by kernel_rfl) (_h n) (El (k:=4) rfl (by kernel_rfl) (_i n) (El (k:=2) rfl (by kernel_rfl) (_j n) (El (k:=4) rfl (by kernel_rfl) (_k n) (El (k:=4) rfl (by kernel_rfl) (_l n) (El (k:=6) rfl (by kernel_rfl) (_m n) (El (k:=2) rfl (by kernel_rfl) (_n n) (El (k:=2) rfl (by kernel_rfl) (_o n) RF.nil))))))))))))))))) (λp=>⟨p.1,p.2.1,p.2.2.1,p.2.2.2.1,p.2.2.2.2.1,p.2.2.2.2.2.1,p.2.2.2.2.2.2.1,p.2.2.2.2.2.2.2.1,p.2.2.2.2.2.2.2.2.1,p.2.2.2.2.2.2.2.2.2.1,p.2.2.2.2.2.2.2.2.2.2.1,p.2.2.2.2.2.2.2.2.2.2.2.1,p.2.2.2.2.2.2.2.2.2.2.2.2.1,p.2.2.2.2.2.2.2.2.2.2.2.2.2.1,p.2.2.2.2.2.2.2.2.2.2.2.2.2.2.1,p.2.2.2.2.2.2.2.2.2.2.2.2.2.2.2.1⟩) Zf (λ_ h=>h)).down
end Go.Sw
