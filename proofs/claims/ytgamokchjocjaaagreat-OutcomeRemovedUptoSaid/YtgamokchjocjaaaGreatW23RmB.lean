/- How the arguments of OutcomeRemoved are read. -/
import Derived.Test.YtgamokchjocjaaaGreatW23RmA
set_option linter.unusedVariables false
set_option linter.unusedSimpArgs false
set_option maxRecDepth 100000
set_option maxHeartbeats 4000000
namespace Go.Sw
open List renaming length→AI
variable (n:Nat)
open Go.Proofs Tryz
def Am.wf(x:Am):Prop:=(λs=>AI s<=1048576) x.Ap/\(Qs .i64) x.AY/\True
theorem y8:RB prog n 207 Am Am.c Am.wf:=(Q9 (RB.struct underlying207 (by kernel_rfl) (En (RB.string Gr) (En QK RF.nil))) (λp=>⟨p.1,p.2.1⟩) Zf (λ_ h=>h)).down
def Co.wf(x:Co):Prop:=(Qs .i64) x.A'/\(Qs .i64) x.To/\(Qs .i64) x.Bp/\(Qs .i64) x.Bq/\True
theorem y_:RB prog n 214 Co Co.c Co.wf:=(Q9 (RB.struct underlying214 (by kernel_rfl) (En QK (En QK (En QK (En QK RF.nil))))) (λp=>⟨p.1,p.2.1,p.2.2.1,p.2.2.2.1⟩) Zf (λ_ h=>h)).down
mutual
def CH.wf:CH->Prop
  |⟨x0,x1,x2⟩=>((Qs .i64) x0)/\((Qs .i64) x1)/\(AI x2<=1048576/\CH.wfs x2)/\True
def CH.wfs:AA CH->Prop
  |[]=>True
  |x::l=>CH.wf x/\CH.wfs l
end
theorem tI(l:AA CH):CH.wfs l↔ ∀x∈l,CH.wf x:=by
  induction l with
  |nil=>simp[CH.wfs]
  |cons x l ih=>simp[CH.wfs,ih]
theorem zB:∀n,RB prog n 224 CH CH.enc CH.wf:=gQ (λn ih=>Q9 (RB.struct underlying224 (by kernel_rfl) (En QK (En QK (En (RB.slice (k:=3) underlying157 (by kernel_rfl) rfl (λx=>by rw[QL];rfl) ih).down RF.nil)))) (λp=>⟨p.1,p.2.1,p.2.2.1⟩) (λp=>by simp[CH.enc,tH,Qe,JE,JD,Qx]) (λp h=>by simpa[CH.wf,tI]using h))
def CO.wf(x:CO):Prop:=(Qs .i64) x.Am/\(Qs .i64) x.B9/\(Qs .i64) x.Bu/\True
theorem zC:RB prog n 226 CO CO.c CO.wf:=(Q9 (RB.struct underlying226 (by kernel_rfl) (En QK (En QK (En QK RF.nil)))) (λp=>⟨p.1,p.2.1,p.2.2.1⟩) Zf (λ_ h=>h)).down
def AN.wf(x:AN):Prop:=(λs=>AI s<=1048576) x.Ap/\(λl=>AI l<=1048576/\ ∀x∈l,CH.wf x) x.Ad/\(Qs .i64) x.BH/\(λl=>AI l<=1048576/\ ∀x∈l,CO.wf x) x.Ar/\(Qs .i64) x.Ak/\True
theorem y7:RB prog n 160 AN AN.c AN.wf:=(Q9 (RB.struct underlying160 (by kernel_rfl) (En (RB.string Gr) (En (RB.slice (k:=3) underlying157 (by kernel_rfl) rfl (λx=>by rw[QL];rfl) (zB n)).down (En QK (En (RB.slice (k:=3) underlying158 (by kernel_rfl) rfl Zf (zC n)).down (En QK RF.nil)))))) (λp=>⟨p.1,p.2.1,p.2.2.1,p.2.2.2.1,p.2.2.2.2.1⟩) Zf (λ_ h=>h)).down
def A3.wf(x:A3):Prop:=(λs=>AI s<=1048576) x.Ap/\(Qs .i64) x.B_/\True
theorem zD:RB prog n 228 A3 A3.c A3.wf:=(Q9 (RB.struct underlying228 (by kernel_rfl) (En (RB.string Gr) (En QK RF.nil))) (λp=>⟨p.1,p.2.1⟩) Zf (λ_ h=>h)).down
def AZ.wf(x:AZ):Prop:=(λs=>AI s<=1048576) x.Ap/\(Qs .i64) x.Bb/\(Qs .i64) x.As/\(λ_=>True) x.BQ/\True
theorem zH:RB prog n 242 AZ AZ.c AZ.wf:=(Q9 (RB.struct underlying242 (by kernel_rfl) (En (RB.string Gr) (En QK (En QK (En (RB.bool underlying4) RF.nil))))) (λp=>⟨p.1,p.2.1,p.2.2.1,p.2.2.2.1⟩) Zf (λ_ h=>h)).down
def AW.wf(x:AW):Prop:=(λs=>AI s<=1048576) x.Ap/\(Qs .i64) x.A'/\(Qs .i64) x.To/\True
theorem zI:RB prog n 244 AW AW.c AW.wf:=(Q9 (RB.struct underlying244 (by kernel_rfl) (En (RB.string Gr) (En QK (En QK RF.nil)))) (λp=>⟨p.1,p.2.1,p.2.2.1⟩) Zf (λ_ h=>h)).down
def CS.wf(x:CS):Prop:=(Qs .i64) x.AN/\(Qs .i64) x.AW/\(Qs .i64) x.Bz/\(Qs .i64) x.BP/\True
theorem zJ:RB prog n 249 CS CS.c CS.wf:=(Q9 (RB.struct underlying249 (by kernel_rfl) (En QK (En QK (En QK (En QK RF.nil))))) (λp=>⟨p.1,p.2.1,p.2.2.1,p.2.2.2.1⟩) Zf (λ_ h=>h)).down
mutual
def AR.wf:AR->Prop
  |⟨x0,x1,x2,x3⟩=>((Qs .i64) x0)/\((Qs .i64) x1)/\((Qs .i64) x2)/\(AI x3<=1048576/\AR.wfs x3)/\True
def AR.wfs:AA AR->Prop
  |[]=>True
  |x::l=>AR.wf x/\AR.wfs l
end
theorem tB(l:AA AR):AR.wfs l↔ ∀x∈l,AR.wf x:=by
  induction l with
  |nil=>simp[AR.wfs]
  |cons x l ih=>simp[AR.wfs,ih]
theorem zF:∀n,RB prog n 231 AR AR.enc AR.wf:=gQ (λn ih=>Q9 (RB.struct underlying231 (by kernel_rfl) (En QK (En QK (En QK (En (RB.slice (k:=4) underlying229 (by kernel_rfl) rfl (λx=>by rw[Jf];rfl) ih).down RF.nil))))) (λp=>⟨p.1,p.2.1,p.2.2.1,p.2.2.2.1⟩) (λp=>by simp[AR.enc,tA,Qe,JE,JD,Qx]) (λp h=>by simpa[AR.wf,tB]using h))
mutual
def AX.wf:AX->Prop
  |⟨x0,x1,x2,x3,x4⟩=>((Qs .i64) x0)/\((Qs .i64) x1)/\(AR.wf x2)/\(AI x3<=1048576/\AX.wfs x3)/\(AI x4<=1048576/\AX.wfs x4)/\True
def AX.wfs:AA AX->Prop
  |[]=>True
  |x::l=>AX.wf x/\AX.wfs l
end
theorem tL(l:AA AX):AX.wfs l↔ ∀x∈l,AX.wf x:=by
  induction l with
  |nil=>simp[AX.wfs]
  |cons x l ih=>simp[AX.wfs,ih]
theorem zG:∀n,RB prog n 233 AX AX.enc AX.wf:=gQ (λn ih=>Q9 (RB.struct underlying233 (by kernel_rfl) (En QK (En QK (Em (k:=4) rfl (by kernel_rfl) (zF n) (En (RB.slice (k:=8) G1 (by kernel_rfl) rfl (λx=>by rw[Yq];rfl) ih).down (En (RB.slice (k:=8) G1 (by kernel_rfl) rfl (λx=>by rw[Yq];rfl) ih).down RF.nil)))))) (λp=>⟨p.1,p.2.1,p.2.2.1,p.2.2.2.1,p.2.2.2.2.1⟩) (λp=>by simp[AX.enc,tK,Qe,JE,JD,Qx,Jf,AR.c]) (λp h=>by simpa[AX.wf,tL]using h))
def AQ.wf(x:AQ):Prop:=(Qs .i64) x.A8/\(Qs .i64) x.A7/\(Qs .i64) x.A6/\(Qs .i64) x.Al/\(Qs .i64) x.BG/\True
theorem Zz:RB prog n 31 AQ AQ.c AQ.wf:=(Q9 (RB.struct underlying31 (by kernel_rfl) (En QK (En QK (En QK (En QK (En QK RF.nil)))))) (λp=>⟨p.1,p.2.1,p.2.2.1,p.2.2.2.1,p.2.2.2.2.1⟩) Zf (λ_ h=>h)).down
def CB.wf(x:CB):Prop:=(λs=>AI s<=1048576) x.Ap/\(λl=>AI l<=1048576/\ ∀x∈l,Am.wf x) x.Au/\(λl=>AI l<=1048576/\ ∀x∈l,Co.wf x) x.Az/\(λl=>AI l<=1048576/\ ∀x∈l,AN.wf x) x.AO/\(λl=>AI l<=1048576/\ ∀x∈l,A3.wf x) x.A0/\(λl=>AI l<=1048576/\ ∀x∈l,AZ.wf x) x.Ab/\(λl=>AI l<=1048576/\ ∀x∈l,AW.wf x) x.AV/\(λl=>AI l<=1048576/\ ∀x∈l,CS.wf x) x.Ay/\(λl=>AI l<=1048576/\ ∀x∈l,AX.wf x) x.BL/\AQ.wf x.AQ/\(Qs .i64) x.Bk/\(Qs .i64) x.Aw/\True
theorem Zy:RB prog n 33 CB CB.c CB.wf:=(Q9 (RB.struct underlying33 (by kernel_rfl) (En (RB.string Gr) (En (RB.slice (k:=2) underlying22 (by kernel_rfl) rfl Zf (y8 n)).down (En (RB.slice (k:=4) underlying23 (by kernel_rfl) rfl Zf (y_ n)).down (En (RB.slice (k:=5) underlying24 (by kernel_rfl) rfl Zf (y7 n)).down (En (RB.slice (k:=2) underlying25 (by kernel_rfl) rfl Zf (zD n)).down (En (RB.slice (k:=4) underlying26 (by kernel_rfl) rfl Zf (zH n)).down (En (RB.slice (k:=3) underlying27 (by kernel_rfl) rfl Zf (zI n)).down (En (RB.slice (k:=4) underlying28 (by kernel_rfl) rfl Zf (zJ n)).down (En (RB.slice (k:=8) G1 (by kernel_rfl) rfl (λx=>by rw[Yq];rfl) (zG n)).down (Em (k:=5) rfl (by kernel_rfl) (Zz n) (En QK (En QK RF.nil))))))))))))) (λp=>⟨p.1,p.2.1,p.2.2.1,p.2.2.2.1,p.2.2.2.2.1,p.2.2.2.2.2.1,p.2.2.2.2.2.2.1,p.2.2.2.2.2.2.2.1,p.2.2.2.2.2.2.2.2.1,p.2.2.2.2.2.2.2.2.2.1,p.2.2.2.2.2.2.2.2.2.2.1,p.2.2.2.2.2.2.2.2.2.2.2.1⟩) Zf (λ_ h=>h)).down
def AP.wf(x:AP):Prop:=(Qs .i64) x.BT/\(Qs .i64) x.AN/\(Qs .i64) x.A3/\(Qs .i64) x.BM/\(Qs .i64) x.B4/\(Qs .i64) x.BA/\(Qs .i64) x.Bl/\(Qs .i64) x.B5/\True
theorem Zx:RB prog n 41 AP AP.c AP.wf:=(Q9 (RB.struct underlying41 (by kernel_rfl) (En QK (En QK (En QK (En QK (En QK (En QK (En QK (En QK RF.nil))))))))) (λp=>⟨p.1,p.2.1,p.2.2.1,p.2.2.2.1,p.2.2.2.2.1,p.2.2.2.2.2.1,p.2.2.2.2.2.2.1,p.2.2.2.2.2.2.2.1⟩) Zf (λ_ h=>h)).down
def A5.wf(x:A5):Prop:=(Qs .i64) x.Am/\(Qs .i64) x.Ag/\(Qs .i64) x.BA/\(Qs .i64) x.BB/\True
theorem Zw:RB prog n 85 A5 A5.c A5.wf:=(Q9 (RB.struct underlying85 (by kernel_rfl) (En QK (En QK (En QK (En QK RF.nil))))) (λp=>⟨p.1,p.2.1,p.2.2.1,p.2.2.2.1⟩) Zf (λ_ h=>h)).down
def Aa.wf(x:Aa):Prop:=(Qs .i64) x.Am/\(Qs .i64) x.Ag/\(Qs .i64) x.BB/\(Qs .i64) x.True/\(Qs .i64) x.B7/\_root_.True
theorem Zv:RB prog n 87 Aa Aa.c Aa.wf:=(Q9 (RB.struct underlying87 (by kernel_rfl) (En QK (En QK (En QK (En QK (En QK RF.nil)))))) (λp=>⟨p.1,p.2.1,p.2.2.1,p.2.2.2.1,p.2.2.2.2.1⟩) Zf (λ_ h=>h)).down
def An.wf(x:An):Prop:=(Qs .i64) x.Bs/\(Qs .i64) x.Bg/\(Qs .i64) x.BZ/\(Qs .i64) x.Br/\(Qs .i64) x.Bf/\(Qs .i64) x.BY/\(Qs .i64) x.Bp/\(Qs .i64) x.Bq/\True
theorem Zu:RB prog n 89 An An.c An.wf:=(Q9 (RB.struct underlying89 (by kernel_rfl) (En QK (En QK (En QK (En QK (En QK (En QK (En QK (En QK RF.nil))))))))) (λp=>⟨p.1,p.2.1,p.2.2.1,p.2.2.2.1,p.2.2.2.2.1,p.2.2.2.2.2.1,p.2.2.2.2.2.2.1,p.2.2.2.2.2.2.2.1⟩) Zf (λ_ h=>h)).down
def Ae.wf(x:Ae):Prop:=(Qs .i64) x.BT/\(Qs .i64) x.AT/\(Qs .i64) x.Lo/\(Qs .i64) x.Hi/\True
theorem Zt:RB prog n 91 Ae Ae.c Ae.wf:=(Q9 (RB.struct underlying91 (by kernel_rfl) (En QK (En QK (En QK (En QK RF.nil))))) (λp=>⟨p.1,p.2.1,p.2.2.1,p.2.2.2.1⟩) Zf (λ_ h=>h)).down
def Aq.wf(x:Aq):Prop:=(Qs .i64) x.Am/\(Qs .i64) x.Ag/\(Qs .i64) x.Lo/\(Qs .i64) x.Hi/\True
theorem Zr:RB prog n 93 Aq Aq.c Aq.wf:=(Q9 (RB.struct underlying93 (by kernel_rfl) (En QK (En QK (En QK (En QK RF.nil))))) (λp=>⟨p.1,p.2.1,p.2.2.1,p.2.2.2.1⟩) Zf (λ_ h=>h)).down
def Bc.wf(x:Bc):Prop:=(Qs .i64) x.A/\(Qs .i64) x.B/\True
theorem Zq:RB prog n 95 Bc Bc.c Bc.wf:=(Q9 (RB.struct underlying95 (by kernel_rfl) (En QK (En QK RF.nil))) (λp=>⟨p.1,p.2.1⟩) Zf (λ_ h=>h)).down
def Ai.wf(x:Ai):Prop:=(Qs .i64) x.BI/\(Qs .i64) x.BT/\(Qs .i64) x.AZ/\(Qs .i64) x.AT/\True
theorem Zp:RB prog n 97 Ai Ai.c Ai.wf:=(Q9 (RB.struct underlying97 (by kernel_rfl) (En QK (En QK (En QK (En QK RF.nil))))) (λp=>⟨p.1,p.2.1,p.2.2.1,p.2.2.2.1⟩) Zf (λ_ h=>h)).down
def Av.wf(x:Av):Prop:=(Qs .i64) x.BI/\(Qs .i64) x.By/\(Qs .i64) x.Bk/\(Qs .i64) x.B2/\True
theorem Zo:RB prog n 99 Av Av.c Av.wf:=(Q9 (RB.struct underlying99 (by kernel_rfl) (En QK (En QK (En QK (En QK RF.nil))))) (λp=>⟨p.1,p.2.1,p.2.2.1,p.2.2.2.1⟩) Zf (λ_ h=>h)).down
def Af.wf(x:Af):Prop:=(Qs .i64) x.BI/\(Qs .i64) x.BU/\(Qs .i64) x.AY/\(Qs .i64) x.BT/\(Qs .i64) x.AT/\(Qs .i64) x.BP/\True
theorem yx:RB prog n 101 Af Af.c Af.wf:=(Q9 (RB.struct underlying101 (by kernel_rfl) (En QK (En QK (En QK (En QK (En QK (En QK RF.nil))))))) (λp=>⟨p.1,p.2.1,p.2.2.1,p.2.2.2.1,p.2.2.2.2.1,p.2.2.2.2.2.1⟩) Zf (λ_ h=>h)).down
def BC.wf(x:BC):Prop:=(Qs .i64) x.BI/\(λ_=>True) x.Bi/\True
theorem yy:RB prog n 103 BC BC.c BC.wf:=(Q9 (RB.struct underlying103 (by kernel_rfl) (En QK (En (RB.bool underlying4) RF.nil))) (λp=>⟨p.1,p.2.1⟩) Zf (λ_ h=>h)).down
def LL.wf(x:LL):Prop:=(Qs .i64) x.BD/\(Qs .i64) x.No/\True
theorem yz:RB prog n 105 LL LL.c LL.wf:=(Q9 (RB.struct underlying105 (by kernel_rfl) (En QK (En QK RF.nil))) (λp=>⟨p.1,p.2.1⟩) Zf (λ_ h=>h)).down
def CI.wf(x:CI):Prop:=(Qs .i64) x.BD/\(Qs .i64) x.No/\(Qs .i64) x.At/\(Qs .i64) x.AY/\AP.wf x.AP/\A5.wf x.A5/\Aa.wf x.Aa/\An.wf x.An/\Ae.wf x.Ae/\Aq.wf x.Aq/\Bc.wf x.Bc/\Ai.wf x.Ai/\Av.wf x.Av/\Af.wf x.Af/\BC.wf x.BC/\LL.wf x.Bo/\True
theorem y6:RB prog n 107 CI CI.c CI.wf:=(Q9 (RB.struct underlying107 (by kernel_rfl) (En QK (En QK (En QK (En QK (Em (k:=8) rfl (by kernel_rfl) (Zx n) (Em (k:=4) rfl (by kernel_rfl) (Zw n) (Em (k:=5) rfl (by kernel_rfl) (Zv n) (Em (k:=8) rfl (by kernel_rfl) (Zu n) (Em (k:=4) rfl (by kernel_rfl) (Zt n) (Em (k:=4) rfl (by kernel_rfl) (Zr n) (Em (k:=2) rfl (by kernel_rfl) (Zq n) (Em (k:=4) rfl (by kernel_rfl) (Zp n) (Em (k:=4) rfl (by kernel_rfl) (Zo n) (Em (k:=6) rfl (by kernel_rfl) (yx n) (Em (k:=2) rfl (by kernel_rfl) (yy n) (Em (k:=2) rfl (by kernel_rfl) (yz n) RF.nil))))))))))))))))) (λp=>⟨p.1,p.2.1,p.2.2.1,p.2.2.2.1,p.2.2.2.2.1,p.2.2.2.2.2.1,p.2.2.2.2.2.2.1,p.2.2.2.2.2.2.2.1,p.2.2.2.2.2.2.2.2.1,p.2.2.2.2.2.2.2.2.2.1,p.2.2.2.2.2.2.2.2.2.2.1,p.2.2.2.2.2.2.2.2.2.2.2.1,p.2.2.2.2.2.2.2.2.2.2.2.2.1,p.2.2.2.2.2.2.2.2.2.2.2.2.2.1,p.2.2.2.2.2.2.2.2.2.2.2.2.2.2.1,p.2.2.2.2.2.2.2.2.2.2.2.2.2.2.2.1⟩) Zf (λ_ h=>h)).down
end Go.Sw
